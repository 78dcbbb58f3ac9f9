/-
  TEXTS JOINED: Wk2, Ws, Wt, Wu, Aw30, Wv, Wx, Aw31, Aw32, Aw34, Aw35, Wy, Wp, Wq, Wk14, Wo, Wk20.
-/
import Derived.Lib.SliceRun
import Derived.Laws.FloatArith
import Derived.Laws.Cover2
import Derived.Test.YtpgbpdnmjeoeoaaGreatYc
set_option linter.unusedSimpArgs false
set_option linter.unusedVariables false
set_option linter.unusedSectionVars false
set_option linter.unnecessarySimpa false
namespace Go.Proofs.YtpgbpdnmjeoeoaaGreat
open Go Go.RowKit

set_option maxHeartbeats 8000000 in
theorem may23_ (p : Prog) (f : Fn) (many : LM) (i : Ins) (m : Nat) (hp : ProgIn p) (hi : InsIn i) (hz : 0 ≤ p.zero ∧ p.zero ≤ 268435456) :
    ACalls Tryz.prog 39 [.agg (progCells p), .agg (fnCells f), .v (.map (some m)), .agg (insCells i)] [.map m (lmT many)] (fun t S => t = bv (mayR p f many i) ∧ .map m (lmT many) ∈ S) := by
 have hpf := hp.funs
 have hpd := hp.data
 have hal := hi.args
 refine ACalls.intro Tryz.func39 rfl Tryz.ntmps39 nB rfl fun X w0 => ?_
 refine rs ?_
 refine AWL.boxOp rfl rfl (B rfl) rfl (E rfl rfl) rfl (fun b4 => ?_)
 refine AWL.boxOp rfl rfl (B rfl) rfl (E rfl rfl) rfl (fun b5 => ?_)
 refine AWL.boxOp rfl rfl (B rfl) rfl (E rfl rfl) rfl (fun b7 => ?_)
 refine ya ?_
 refine AW.perm (S' := [.box b4 56 (progCells p), .box b5 93 (fnCells f), .box b7 98 (insCells i), .map m (lmT many)]) (List.perm_append_comm (l₁ := ([.box b4 56 (progCells p), .box b5 93 (fnCells f), .box b7 98 (insCells i)] : St)) (l₂ := [.map m (lmT many)])) ?_
 refine rs (yf fo_98_0 ?_)
 refine yl ag_3 2 ?_
 refine AWL.callT rfl rfl (B rfl) rfl ce_65 (E rfl rfl) (evsC (E rfl rfl) evs0) (Of36 i.kind) ?_
 rintro t16 S16 rfl
 refine ym ?_
 refine Y1 (Yv.extract rfl eV rfl) ?_
 refine Y1 (Yv.extract rfl eV rfl) ?_
 refine AWL.allocOp rfl rfl (B rfl) rfl zc_137 (fun b9 => ?_)
 refine AWL.storeBox (i := 4) rfl rfl rfl ag_137 rfl (E rfl rfl) (E rfl rfl) rfl rfl nB ?_
 refine ya ?_
 refine AW.eqS (S' := [.box b4 56 (progCells p), .box b5 93 (fnCells f), .box b7 98 (insCells i), .map m (lmT many), .box b9 137 (hasCells (hasF i.kind))]) rfl ?_
 refine AW.seq ?_
 refine rs (ym ?_)
 refine Y1 (Yv.not rfl eV) (nl ?_)
 refine AW.cond rfl (fun h0t => ?_) (fun h0f => ?_)
 ·try replace h0t := odt h0t
  refine ra ?_
  refine AW.ret (retI (.tmp rfl .nil) ?_)
  refine ⟨by show bv _ = bv _; rw [may_0 h0t], by simp⟩
 try replace h0f := odf h0f
 refine AW.skip ?_
 refine AW.seq ?_
 refine rs (yf fo_137_0 ?_)
 refine yl ag_4 4 ?_
 refine ym ?_
 refine gT (Yv.fieldBox rfl fo_98_1 eV) ?_
 refine gT (Yv.loadBox rfl ag_3 (i := 2) rfl (Eg rfl rfl id) rfl) ?_
 refine gT (Yv.lss rfl (Eg rfl rfl id) eV) ?_
 refine gT (Yv.move rfl (Eg rfl rfl id)) ?_
 refine gF (Yv.fieldBox rfl fo_98_1 eV) ?_
 refine gF (Yv.loadBox rfl ag_3 (i := 2) rfl (Eg rfl rfl id) rfl) ?_
 refine gF (Yv.fieldBox rfl fo_93_2 eV) ?_
 refine gF (Yv.loadBox rfl ag_3 (i := 1) rfl (Eg rfl rfl id) rfl) ?_
 refine gF (Yv.geq rfl (Eg rfl rfl id) (Eg rfl rfl id)) ?_
 refine gT (Yv.pickOr (t := .const (.bool true)) rfl (Eg rfl rfl id) (Eg rfl rfl id)) ?_
 refine Y1 (Yv.pickAnd rfl eV (Eg rfl rfl id)) ?_
 refine ym ?_
 refine gF (Yv.fieldBox rfl fo_137_1 eV) ?_
 refine gF (Yv.loadBox rfl ag_4 (i := 4) rfl (Eg rfl rfl id) rfl) ?_
 refine gF (Yv.move rfl (Eg rfl rfl id)) ?_
 refine gT (Yv.fieldBox rfl fo_98_2 eV) ?_
 refine gT (Yv.loadBox rfl ag_3 (i := 2) rfl (Eg rfl rfl id) rfl) ?_
 refine gT (Yv.lss rfl (Eg rfl rfl id) eV) ?_
 refine gT (Yv.move rfl (Eg rfl rfl id)) ?_
 refine gF (Yv.fieldBox rfl fo_98_2 eV) ?_
 refine gF (Yv.loadBox rfl ag_3 (i := 2) rfl (Eg rfl rfl id) rfl) ?_
 refine gF (Yv.fieldBox rfl fo_93_2 eV) ?_
 refine gF (Yv.loadBox rfl ag_3 (i := 1) rfl (Eg rfl rfl id) rfl) ?_
 refine gF (Yv.geq rfl (Eg rfl rfl id) (Eg rfl rfl id)) ?_
 refine gT (Yv.pickOr (t := .const (.bool true)) rfl (Eg rfl rfl id) (Eg rfl rfl id)) ?_
 refine gF (Yv.pickAnd rfl (Eg rfl rfl id) (Eg rfl rfl id)) ?_
 refine Y1 (Yv.pickOr (t := .const (.bool true)) rfl eV (Eg rfl rfl id)) ?_
 refine ym ?_
 refine gF (Yv.fieldBox rfl fo_137_2 eV) ?_
 refine gF (Yv.loadBox rfl ag_4 (i := 4) rfl (Eg rfl rfl id) rfl) ?_
 refine gF (Yv.move rfl (Eg rfl rfl id)) ?_
 refine gT (Yv.fieldBox rfl fo_98_3 eV) ?_
 refine gT (Yv.loadBox rfl ag_3 (i := 2) rfl (Eg rfl rfl id) rfl) ?_
 refine gT (Yv.lss rfl (Eg rfl rfl id) eV) ?_
 refine gT (Yv.move rfl (Eg rfl rfl id)) ?_
 refine gF (Yv.fieldBox rfl fo_98_3 eV) ?_
 refine gF (Yv.loadBox rfl ag_3 (i := 2) rfl (Eg rfl rfl id) rfl) ?_
 refine gF (Yv.fieldBox rfl fo_93_2 eV) ?_
 refine gF (Yv.loadBox rfl ag_3 (i := 1) rfl (Eg rfl rfl id) rfl) ?_
 refine gF (Yv.geq rfl (Eg rfl rfl id) (Eg rfl rfl id)) ?_
 refine gT (Yv.pickOr (t := .const (.bool true)) rfl (Eg rfl rfl id) (Eg rfl rfl id)) ?_
 refine gF (Yv.pickAnd rfl (Eg rfl rfl id) (Eg rfl rfl id)) ?_
 refine Y1 (Yv.pickOr (t := .const (.bool true)) rfl eV (Eg rfl rfl id)) (nl ?_)
 refine AW.cond rfl (fun h1t => ?_) (fun h1f => ?_)
 ·have h1tr := h1t
  try replace h1t := odt h1t
  refine ra ?_
  refine AW.ret (retI (.tmp rfl .nil) ?_)
  refine ⟨by show bv _ = bv _; rw [may_1 h0f h1t], by simp⟩
 have h1fr := h1f
 try replace h1f := odf h1f
 refine AW.skip ?_
 refine AW.seq ?_
 refine rs (yf fo_137_4 ?_)
 refine yl ag_4 4 ?_
 refine ym ?_
 refine gT (Yv.fieldBox rfl fo_98_6 eV) ?_
 refine gT (Yv.loadBox rfl ag_3 (i := 2) rfl (Eg rfl rfl id) rfl) ?_
 refine gT (Yv.lss rfl (Eg rfl rfl id) eV) ?_
 refine gT (Yv.move rfl (Eg rfl rfl id)) ?_
 refine gF (Yv.fieldBox rfl fo_98_6 eV) ?_
 refine gF (Yv.loadBox rfl ag_3 (i := 2) rfl (Eg rfl rfl id) rfl) ?_
 refine gF (Yv.gtr rfl (Eg rfl rfl id) eV) ?_
 refine gT (Yv.pickOr (t := .const (.bool true)) rfl (Eg rfl rfl id) (Eg rfl rfl id)) ?_
 refine Y1 (Yv.pickAnd rfl eV (Eg rfl rfl id)) ?_
 refine ym ?_
 refine gF (Yv.fieldBox rfl fo_137_5 eV) ?_
 refine gF (Yv.loadBox rfl ag_4 (i := 4) rfl (Eg rfl rfl id) rfl) ?_
 refine gF (Yv.move rfl (Eg rfl rfl id)) ?_
 refine gT (Yv.fieldBox rfl fo_98_8 eV) ?_
 refine gT (Yv.loadBox rfl ag_3 (i := 2) rfl (Eg rfl rfl id) rfl) ?_
 refine gT (Yv.neq rfl (Eg rfl rfl id) eV) ?_
 refine gF (Yv.pickAnd rfl (Eg rfl rfl id) (Eg rfl rfl id)) ?_
 refine gF (Yv.move rfl (Eg rfl rfl id)) ?_
 refine gT (Yv.fieldBox rfl fo_98_8 eV) ?_
 refine gT (Yv.loadBox rfl ag_3 (i := 2) rfl (Eg rfl rfl id) rfl) ?_
 refine gT (Yv.neq rfl (Eg rfl rfl id) eV) ?_
 refine gF (Yv.pickAnd rfl (Eg rfl rfl id) (Eg rfl rfl id)) ?_
 refine gF (Yv.move rfl (Eg rfl rfl id)) ?_
 refine gT (Yv.fieldBox rfl fo_98_8 eV) ?_
 refine gT (Yv.loadBox rfl ag_3 (i := 2) rfl (Eg rfl rfl id) rfl) ?_
 refine gT (Yv.neq rfl (Eg rfl rfl id) eV) ?_
 refine gF (Yv.pickAnd rfl (Eg rfl rfl id) (Eg rfl rfl id)) ?_
 refine Y1 (Yv.pickOr (t := .const (.bool true)) rfl eV (Eg rfl rfl id)) (nl ?_)
 refine AW.cond rfl (fun h2t => ?_) (fun h2f => ?_)
 ·have h2tr := h2t
  try replace h2t := odt h2t
  refine ra ?_
  refine AW.ret (retI (.tmp rfl .nil) ?_)
  refine ⟨by show bv _ = bv _; rw [may_2 h0f h1f h2t], by simp⟩
 have h2fr := h2f
 try replace h2f := odf h2f
 refine AW.skip ?_
 refine AW.seq ?_
 refine rs (yf fo_137_6 ?_)
 refine yl ag_4 4 ?_
 refine ym ?_
 refine gT (Yv.move rfl eV) ?_
 refine gT (Yv.fieldBox rfl fo_98_4 eV) ?_
 refine gT (Yv.loadBox rfl ag_3 (i := 2) rfl (Eg rfl rfl id) rfl) ?_
 refine gT (Yv.eqT (Yv.lookup1 (k := .i _ _) (i := 3) rfl mp_99 rfl (Eg rfl rfl id) (Eg rfl rfl id) rfl (lm_good _ _ rfl)) (get_lm _ _)) ?_
 refine gT (Yv.neq rfl (Eg rfl rfl id) eV) ?_
 refine Y1 (Yv.pickAnd rfl eV (Eg rfl rfl id)) ?_
 refine ym ?_
 refine gF (Yv.fieldBox rfl fo_137_7 eV) ?_
 refine gF (Yv.loadBox rfl ag_4 (i := 4) rfl (Eg rfl rfl id) rfl) ?_
 refine gF (Yv.move rfl (Eg rfl rfl id)) ?_
 refine gT (Yv.fieldBox rfl fo_98_5 eV) ?_
 refine gT (Yv.loadBox rfl ag_3 (i := 2) rfl (Eg rfl rfl id) rfl) ?_
 refine gT (Yv.lss rfl (Eg rfl rfl id) eV) ?_
 refine gT (Yv.move rfl (Eg rfl rfl id)) ?_
 refine gF (Yv.fieldBox rfl fo_98_5 eV) ?_
 refine gF (Yv.loadBox rfl ag_3 (i := 2) rfl (Eg rfl rfl id) rfl) ?_
 refine gF (Yv.fieldBox rfl fo_56_0 eV) ?_
 refine gF (Yv.loadBox rfl ag_53 (i := 0) rfl (Eg rfl rfl id) rfl) ?_
 refine gF (Yv.lenSl rfl so_53 (B rfl) (Eg rfl rfl id) len_funs) ?_
 refine gF (Yv.geq rfl (Eg rfl rfl id) (Eg rfl rfl id)) ?_
 refine gT (Yv.pickOr (t := .const (.bool true)) rfl (Eg rfl rfl id) (Eg rfl rfl id)) ?_
 refine gF (Yv.pickAnd rfl (Eg rfl rfl id) (Eg rfl rfl id)) ?_
 refine Y1 (Yv.pickOr (t := .const (.bool true)) rfl eV (Eg rfl rfl id)) (nl ?_)
 refine AW.cond rfl (fun h3t => ?_) (fun h3f => ?_)
 ·have h3tr := h3t
  try replace h3t := odt h3t
  refine ra ?_
  refine AW.ret (retI (.tmp rfl .nil) ?_)
  refine ⟨by show bv _ = bv _; rw [may_3 h0f h1f h2f h3t], by simp⟩
 have h3fr := h3f
 try replace h3f := odf h3f
 refine AW.skip ?_
 refine AW.seq ?_
 refine ra ?_
 refine AW.block ?_
 refine AW.loop (fun (j : Nat) => [(2, true, .v (.map (some m))), (4, true, pv b4), (5, true, pv b5), (7, true, pv b7), (9, true, pv b9), (11, true, .v (.int .i64 (j : Int)))]) (fun (j : Nat) => [.box b4 56 (progCells p), .box b5 93 (fnCells f), .box b7 98 (insCells i), .map m (lmT many), .box b9 137 (hasCells (hasF i.kind))]) (fun (j : Nat) => j ≤ i.args.length ∧ ∀ q, q < j → outB f.regs (i.args.getD q default) = false) (fun (j : Nat) => i.args.length - j) 0 ?_ ?_ ?_ ?_
 ·exact ⟨Nat.zero_le _, fun q hq => absurd hq (Nat.not_lt_zero q)⟩
 ·exact (su (su (su (su (su (su sn))))))
 ·rfl
 intro j hinv
 obtain ⟨hj, hout⟩ := hinv
 refine AW.seq ?_
 refine rs (ym ?_)
 refine yf fo_98_10 ?_
 refine yl ag_35 2 ?_
 refine Y1 (Yv.lenSl rfl so_35 (B rfl) eV len_args) ?_
 refine Y1 (Yv.lss rfl eV eV) ?_
 refine ym ?_
 refine gT (Yv.fieldBox rfl fo_137_3 eV) ?_
 refine gT (Yv.loadBox rfl ag_4 (i := 4) rfl (Eg rfl rfl id) rfl) ?_
 refine Y1 (Yv.pickAnd rfl eV (Eg rfl rfl id)) (nl ?_)
 refine AW.cond rfl (fun h4t => ?_) (fun h4f => ?_)
 ·have h4tr := h4t
  try replace h4t := odt h4t
  rw [Bool.and_eq_true] at h4t
  have hj2 : j < i.args.length := by have := odt h4t.1; omega
  refine AW.skip ?_
  refine AW.seq ?_
  refine AW.block ?_
  refine AW.rseqQ rfl (by kernel_rfl) ?_
  refine qf fo_98_10 ?_
  refine ql ag_35 2 ?_
  refine qm ?_
  refine Q1 (Yv.indexSl rfl ss_35 (B rfl) eV eV (fun hg => ⟨rfl, (by first | omega | (simp only [len_code, len_funs, len_args, len_data]; omega))⟩)) ?_
  refine Q1 (Yv.loadRp rfl ag_3 eV (fun hg => arg_at (by omega))) ?_
  refine Q1 (Yv.lss rfl eV eV) ?_
  refine qm ?_
  refine kF (Yv.fieldBox rfl fo_98_10 eV) ?_
  refine kF (Yv.loadBox rfl ag_35 (i := 2) rfl (Eg rfl rfl id) rfl) ?_
  refine kF (Yv.move rfl eV) ?_
  refine kF (Yv.indexSl rfl ss_35 (B rfl) (Eg rfl rfl id) (Eg rfl rfl id) (fun hg => ⟨rfl, (by first | omega | (simp only [len_code, len_funs, len_args, len_data]; omega) | (simp only [len_code, len_funs, len_args, len_data]; simp only [Bool.and_eq_true, Bool.or_eq_false_iff, Bool.not_eq_true', Bool.not_eq_false', decide_eq_true_eq, decide_eq_false_iff_not] at hg; omega))⟩)) ?_
  refine kF (Yv.loadRp rfl ag_3 (Eg rfl rfl id) (fun hg => arg_at (by omega))) ?_
  refine kF (Yv.fieldBox rfl fo_93_2 eV) ?_
  refine kF (Yv.loadBox rfl ag_3 (i := 1) rfl (Eg rfl rfl id) rfl) ?_
  refine kF (Yv.geq rfl (Eg rfl rfl id) (Eg rfl rfl id)) ?_
  refine Q1 (Yv.pickOr (t := .const (.bool true)) rfl eV (Eg rfl rfl id)) ?_
  refine AWQ.nil ?_
  refine AW.cond rfl (fun h5t => ?_) (fun h5f => ?_)
  ·have h5tr := h5t
   try replace h5t := odt h5t
   refine ra ?_
   refine AW.ret (retI (.tmp rfl .nil) ?_)
   refine ⟨by show bv _ = bv _; rw [may_4 h0f h1f h2f h3f (by unfold badAB; rw [show (hasF i.kind).args = true from h4t.2, any_at hj2 h5t]; rfl)], by simp⟩
  have h5fr := h5f
  try replace h5f := odf h5f
  refine AW.skip ?_
  refine AW.region ?_
  refine ym ?_
  refine Y1 (Yv.addN_i64 rfl eV eV (fun hg => by omega)) ?_
  refine ya ?_
  refine ⟨j + 1, ⟨by omega, fun q hq => ?_⟩, by omega, (su (su (su (su (su (Sub.cons rfl (by simp) Sub.nil)))))), rfl⟩
  rcases Nat.lt_or_ge q j with h | h
  ·exact hout q h
  obtain rfl : q = j := by omega
  exact h5f
 have h4fr := h4f
 try replace h4f := odf h4f
 have hA : badAB (hasF i.kind) f.regs i = false := by
  unfold badAB
  rw [Bool.and_eq_false_iff] at h4f
  rcases h4f with h | h
  ·rw [not_any (fun k hk => hout k (by have := odf h; omega)), Bool.and_false]
  ·rw [show (hasF i.kind).args = false from h, Bool.false_and]
 refine AW.exit ?_
 refine ra ?_
 refine AW.mid (α := Unit) (fun _ => [(2, true, .v (.map (some m))), (4, true, pv b4), (5, true, pv b5), (7, true, pv b7), (9, true, pv b9), (12, true, .v (.int .i64 (mostF i.kind)))]) (fun _ => [.box b4 56 (progCells p), .box b5 93 (fnCells f), .box b7 98 (insCells i), .map m (lmT many), .box b9 137 (hasCells (hasF i.kind))]) (fun _ => True) ?_ ?_
 ·refine rs (yf fo_98_0 ?_)
  refine yl ag_3 2 ?_
  refine Y1 (Yv.eql rfl eV eV) (nl ?_)
  refine AW.cond rfl (fun h6t => ?_) (fun h6f => ?_)
  ·try replace h6t := odt h6t
   refine AW.region ?_
   refine ya ?_
   refine ⟨(), trivial, (su (su (su (su (su (Sub.cons rfl (by rw [mostF, if_pos h6t]; rfl) Sub.nil)))))), rfl⟩
  try replace h6f := odf h6f
  refine AW.skip ?_
  refine ⟨(), trivial, (su (su (su (su (su (Sub.cons rfl (by rw [mostF, if_neg h6f]; rfl) Sub.nil)))))), rfl⟩
 rintro _ hmid
 refine AW.seq ?_
 refine AW.rseqQ rfl (by kernel_rfl) ?_
 refine qf fo_137_3 ?_
 refine ql ag_4 4 ?_
 refine qm ?_
 refine kT (Yv.fieldBox rfl fo_98_10 eV) ?_
 refine kT (Yv.loadBox rfl ag_35 (i := 2) rfl (Eg rfl rfl id) rfl) ?_
 refine kT (Yv.lenSl rfl so_35 (B rfl) (Eg rfl rfl id) len_args) ?_
 refine kT (Yv.move rfl eV) ?_
 refine kT (Yv.gtr rfl (Eg rfl rfl id) (Eg rfl rfl id)) ?_
 refine Q1 (Yv.pickAnd rfl eV (Eg rfl rfl id)) ?_
 refine qm ?_
 refine kF (Yv.fieldBox rfl fo_137_3 eV) ?_
 refine kF (Yv.loadBox rfl ag_4 (i := 4) rfl (Eg rfl rfl id) rfl) ?_
 refine kF (Yv.move rfl (Eg rfl rfl id)) ?_
 refine kT (Yv.fieldBox rfl fo_137_7 eV) ?_
 refine kT (Yv.loadBox rfl ag_4 (i := 4) rfl (Eg rfl rfl id) rfl) ?_
 refine kF (Yv.pickAnd rfl (Eg rfl rfl id) (Eg rfl rfl id)) ?_
 refine kF (Yv.move rfl (Eg rfl rfl id)) ?_
 refine kT (Yv.fieldBox rfl fo_98_10 eV) ?_
 refine kT (Yv.loadBox rfl ag_35 (i := 2) rfl (Eg rfl rfl id) rfl) ?_
 refine kT (Yv.lenSl rfl so_35 (B rfl) (Eg rfl rfl id) len_args) ?_
 refine kT (Yv.fieldBox rfl fo_56_0 eV) ?_
 refine kT (Yv.loadBox rfl ag_53 (i := 0) rfl (Eg rfl rfl id) rfl) ?_
 refine kT (Yv.fieldBox rfl fo_98_5 eV) ?_
 refine kT (Yv.loadBox rfl ag_3 (i := 2) rfl (Eg rfl rfl id) rfl) ?_
 refine kT (Yv.indexSl (j := i.f.toNat) rfl ss_53 (B rfl) (Eg rfl rfl id) (Eg rfl rfl id) (fun hg => ⟨(Int.toNat_of_nonneg (lb_lt h3f (by simp only [Bool.and_eq_true] at hg; exact hg.2.2)).1).symm, by rw [len_funs]; have := (lb_lt h3f (by simp only [Bool.and_eq_true] at hg; exact hg.2.2)).2; omega⟩)) ?_
 refine kT (Yv.fieldRp rfl fo_93_1 (Eg rfl rfl id)) ?_
 refine kT (Yv.loadRp rfl ag_3 (Eg rfl rfl id) (fun hg => fpar_at (lb_lt h3f (by simp only [Bool.and_eq_true] at hg; exact hg.2.2)).2)) ?_
 refine kT (Yv.neq rfl (Eg rfl rfl id) (Eg rfl rfl id)) ?_
 refine kF (Yv.pickAnd rfl (Eg rfl rfl id) (Eg rfl rfl id)) ?_
 refine Q1 (Yv.pickOr (t := .const (.bool true)) rfl eV (Eg rfl rfl id)) ?_
 refine AWQ.nil ?_
 refine AW.cond rfl (fun h7t => ?_) (fun h7f => ?_)
 ·have h7tr := h7t
  try replace h7t := odt h7t
  refine ra ?_
  refine AW.ret (retI (.tmp rfl .nil) ?_)
  refine ⟨by show bv _ = bv _; rw [may_5 h0f h1f h2f h3f hA h7t], by simp⟩
 have h7fr := h7f
 try replace h7f := odf h7f
 refine AW.skip ?_
 refine AW.seq ?_
 refine rs (yf fo_98_0 ?_)
 refine yl ag_3 2 (nl ?_)
 refine AW.block ?_
 refine rs (Y1 (Yv.eql rfl eV eV) ?_)
 refine ya ?_
 refine AW.cond rfl (fun h8t => ?_) (fun h8f => ?_)
 ·try replace h8t := odt h8t
  refine rs (yf fo_98_7 ?_)
  refine yl ag_3 2 ?_
  refine Y1 (Yv.geq rfl eV eV) ?_
  refine ym ?_
  refine gT (Yv.fieldBox rfl fo_98_7 eV) ?_
  refine gT (Yv.loadBox rfl ag_3 (i := 2) rfl (Eg rfl rfl id) rfl) ?_
  refine gT (Yv.leq rfl (Eg rfl rfl id) eV) ?_
  refine Y1 (Yv.pickAnd rfl eV (Eg rfl rfl id)) ?_
  refine ya ?_
  refine AW.ret (retI (.tmp rfl .nil) ?_)
  refine ⟨?_, by simp⟩
  show bv _ = bv _
  rw [may_6 h0f h1f h2f h3f hA h7f]
  unfold restB
  rw [if_pos (by omega)]
 try replace h8f := odf h8f
 refine AW.seq ?_
 refine rs (Y1 (Yv.eql rfl eV eV) ?_)
 refine ya ?_
 refine AW.cond rfl (fun h9t => ?_) (fun h9f => ?_)
 ·try replace h9t := odt h9t
  refine AW.skip ?_
  refine AW.cond rfl (fun h10t => ?_) (fun h10f => ?_)
  ·try replace h10t := odt h10t
   refine rs (yf fo_98_9 ?_)
   refine yl ag_2 2 ?_
   refine Y1 (Yv.geq rfl eV eV) ?_
   refine ym ?_
   refine gT (Yv.fieldBox rfl fo_98_9 eV) ?_
   refine gT (Yv.loadBox rfl ag_2 (i := 2) rfl (Eg rfl rfl id) rfl) ?_
   refine gT (Yv.leq rfl (Eg rfl rfl id) eV) ?_
   refine Y1 (Yv.pickAnd rfl eV (Eg rfl rfl id)) ?_
   refine ya ?_
   refine AW.ret (retI (.tmp rfl .nil) ?_)
   refine ⟨?_, by simp⟩
   show bv _ = bv _
   rw [may_6 h0f h1f h2f h3f hA h7f]
   unfold restB
   rw [if_neg (by omega), if_pos (by omega)]
  exfalso; replace h10f := odf h10f; omega
 try replace h9f := odf h9f
 refine AW.region ?_
 refine Y1 (Yv.eql rfl eV eV) ?_
 refine ya ?_
 refine AW.cond rfl (fun h11t => ?_) (fun h11f => ?_)
 ·try replace h11t := odt h11t
  refine rs (yf fo_98_9 ?_)
  refine yl ag_2 2 ?_
  refine Y1 (Yv.geq rfl eV eV) ?_
  refine ym ?_
  refine gT (Yv.fieldBox rfl fo_98_9 eV) ?_
  refine gT (Yv.loadBox rfl ag_2 (i := 2) rfl (Eg rfl rfl id) rfl) ?_
  refine gT (Yv.leq rfl (Eg rfl rfl id) eV) ?_
  refine Y1 (Yv.pickAnd rfl eV (Eg rfl rfl id)) ?_
  refine ya ?_
  refine AW.ret (retI (.tmp rfl .nil) ?_)
  refine ⟨?_, by simp⟩
  show bv _ = bv _
  rw [may_6 h0f h1f h2f h3f hA h7f]
  unfold restB
  rw [if_neg (by omega), if_pos (by omega)]
 try replace h11f := odf h11f
 refine rs (Y1 (Yv.eql rfl eV eV) ?_)
 refine ya ?_
 refine AW.cond rfl (fun h12t => ?_) (fun h12f => ?_)
 ·try replace h12t := odt h12t
  refine rs (yf fo_98_9 ?_)
  refine yl ag_2 2 ?_
  refine Y1 (Yv.geq rfl eV eV) ?_
  refine ym ?_
  refine gT (Yv.fieldBox rfl fo_98_9 eV) ?_
  refine gT (Yv.loadBox rfl ag_2 (i := 2) rfl (Eg rfl rfl id) rfl) ?_
  refine gT (Yv.fieldBox rfl fo_56_1 eV) ?_
  refine gT (Yv.loadBox rfl ag_54 (i := 0) rfl (Eg rfl rfl id) rfl) ?_
  refine gT (Yv.lenSl rfl so_54 (B rfl) (Eg rfl rfl id) len_data) ?_
  refine gT (Yv.fieldBox rfl fo_56_2 eV) ?_
  refine gT (Yv.loadBox rfl ag_3 (i := 0) rfl (Eg rfl rfl id) rfl) ?_
  refine gT (Yv.addN_i64 rfl (Eg rfl rfl id) (Eg rfl rfl id) (fun hg => by first | omega | (simp only [Bool.and_eq_true, Bool.or_eq_false_iff, Bool.not_eq_true', Bool.not_eq_false', decide_eq_true_eq, decide_eq_false_iff_not] at hg; omega))) ?_
  refine gT (Yv.leq rfl (Eg rfl rfl id) (Eg rfl rfl id)) ?_
  refine Y1 (Yv.pickAnd rfl eV (Eg rfl rfl id)) ?_
  refine ya ?_
  refine AW.ret (retI (.tmp rfl .nil) ?_)
  refine ⟨?_, by simp⟩
  show bv _ = bv _
  rw [may_6 h0f h1f h2f h3f hA h7f]
  unfold restB
  rw [if_neg (by omega), if_neg (by omega), if_pos (by omega)]
 try replace h12f := odf h12f
 refine AW.seq ?_
 refine rs (Y1 (Yv.eql rfl eV eV) ?_)
 refine ya ?_
 refine AW.cond rfl (fun h13t => ?_) (fun h13f => ?_)
 ·try replace h13t := odt h13t
  refine AW.skip ?_
  refine AW.cond rfl (fun h14t => ?_) (fun h14f => ?_)
  ·try replace h14t := odt h14t
   refine rs (yf fo_98_9 ?_)
   refine yl ag_2 2 ?_
   refine Y1 (Yv.geq rfl eV eV) ?_
   refine ym ?_
   refine gT (Yv.fieldBox rfl fo_98_9 eV) ?_
   refine gT (Yv.loadBox rfl ag_2 (i := 2) rfl (Eg rfl rfl id) rfl) ?_
   refine gT (Yv.fieldBox rfl fo_93_3 eV) ?_
   refine gT (Yv.loadBox rfl ag_3 (i := 1) rfl (Eg rfl rfl id) rfl) ?_
   refine gT (Yv.lss rfl (Eg rfl rfl id) (Eg rfl rfl id)) ?_
   refine Y1 (Yv.pickAnd rfl eV (Eg rfl rfl id)) ?_
   refine ya ?_
   refine AW.ret (retI (.tmp rfl .nil) ?_)
   refine ⟨?_, by simp⟩
   show bv _ = bv _
   rw [may_6 h0f h1f h2f h3f hA h7f]
   unfold restB
   rw [if_neg (by omega), if_neg (by omega), if_neg (by omega), if_pos (by omega)]
  exfalso; replace h14f := odf h14f; omega
 try replace h13f := odf h13f
 refine AW.region ?_
 refine Y1 (Yv.eql rfl eV eV) ?_
 refine ya ?_
 refine AW.cond rfl (fun h15t => ?_) (fun h15f => ?_)
 ·try replace h15t := odt h15t
  refine rs (yf fo_98_9 ?_)
  refine yl ag_2 2 ?_
  refine Y1 (Yv.geq rfl eV eV) ?_
  refine ym ?_
  refine gT (Yv.fieldBox rfl fo_98_9 eV) ?_
  refine gT (Yv.loadBox rfl ag_2 (i := 2) rfl (Eg rfl rfl id) rfl) ?_
  refine gT (Yv.fieldBox rfl fo_93_3 eV) ?_
  refine gT (Yv.loadBox rfl ag_3 (i := 1) rfl (Eg rfl rfl id) rfl) ?_
  refine gT (Yv.lss rfl (Eg rfl rfl id) (Eg rfl rfl id)) ?_
  refine Y1 (Yv.pickAnd rfl eV (Eg rfl rfl id)) ?_
  refine ya ?_
  refine AW.ret (retI (.tmp rfl .nil) ?_)
  refine ⟨?_, by simp⟩
  show bv _ = bv _
  rw [may_6 h0f h1f h2f h3f hA h7f]
  unfold restB
  rw [if_neg (by omega), if_neg (by omega), if_neg (by omega), if_pos (by omega)]
 try replace h15f := odf h15f
 refine AW.skip ?_
 refine ra ?_
 refine AW.ret (retI (.tmp rfl .nil) ?_)
 refine ⟨?_, by simp⟩
 show bv _ = bv _
 rw [may_6 h0f h1f h2f h3f hA h7f]
 unfold restB
 rw [if_neg (by omega), if_neg (by omega), if_neg (by omega), if_neg (by omega)]

theorem may23 (p : Prog) (f : Fn) (many : LM) (i : Ins) (m : Nat) (hp : ProgIn p) (hi : InsIn i) (hz : 0 ≤ p.zero ∧ p.zero ≤ 268435456) : ACalls Tryz.prog 39 [.agg (progCells p), .agg (fnCells f), .v (.map (some m)), .agg (insCells i)] [.map m (lmT many)] (fun t S => t = bv (mayR p f many i) ∧ S = [.map m (lmT many)]) := ACalls.keep1 (may23_ p f many i m hp hi hz)
set_option maxHeartbeats 8000000 in
theorem Check7 (p : Prog) (hp : ProgIn p) :
    ACalls Tryz.prog 19 [.agg (progCells p)] [] (fun t S => t = zi (checkR p)) := by
 have hpf := hp.funs
 have hpd := hp.data
 have hall := hp.all
 refine ACalls.intro Tryz.func19 rfl Tryz.ntmps19 nB rfl fun X w0 => ?_
 refine rs ?_
 refine AWL.boxOp rfl rfl (B rfl) rfl (E rfl rfl) rfl (fun b1 => ?_)
 refine ya ?_
 refine AW.seq ?_
 refine rs (yf fo_56_0 ?_)
 refine yl ag_53 0 ?_
 refine Y1 (Yv.lenSl rfl so_53 (B rfl) eV len_funs) ?_
 refine Y1 (Yv.eql rfl eV eV) ?_
 refine ym ?_
 refine gF (Yv.fieldBox rfl fo_56_0 eV) ?_
 refine gF (Yv.loadBox rfl ag_53 (i := 0) rfl (Eg rfl rfl id) rfl) ?_
 refine gF (Yv.indexSl rfl ss_53 (B rfl) (E rfl rfl) (Eg rfl rfl id) (fun hg => ⟨rfl, (by first | omega | (simp only [len_code, len_funs, len_args, len_data]; omega) | (simp only [len_code, len_funs, len_args, len_data]; simp only [Bool.and_eq_true, Bool.or_eq_false_iff, Bool.not_eq_true', Bool.not_eq_false', decide_eq_true_eq, decide_eq_false_iff_not] at hg; omega))⟩)) ?_
 refine gF (Yv.fieldRp rfl fo_93_1 (Eg rfl rfl id)) ?_
 refine gF (Yv.loadRp rfl ag_3 (Eg rfl rfl id) (fun hg => fpar_at (j := 0) (by first | omega | (simp only [Bool.or_eq_true, Bool.and_eq_true, Bool.or_eq_false_iff, Bool.and_eq_false_iff, Bool.not_eq_true', Bool.not_eq_false', decide_eq_true_eq, decide_eq_false_iff_not, Decidable.not_not] at hg; omega)))) ?_
 refine gF (Yv.neq rfl (Eg rfl rfl id) eV) ?_
 refine Y1 (Yv.pickOr (t := .const (.bool true)) rfl eV (Eg rfl rfl id)) ?_
 refine ym ?_
 refine gF (Yv.fieldBox rfl fo_56_2 eV) ?_
 refine gF (Yv.loadBox rfl ag_3 (i := 0) rfl (Eg rfl rfl id) rfl) ?_
 refine gF (Yv.lss rfl (Eg rfl rfl id) eV) ?_
 refine Y1 (Yv.pickOr (t := .const (.bool true)) rfl eV (Eg rfl rfl id)) ?_
 refine ym ?_
 refine gF (Yv.fieldBox rfl fo_56_2 eV) ?_
 refine gF (Yv.loadBox rfl ag_3 (i := 0) rfl (Eg rfl rfl id) rfl) ?_
 refine gF (Yv.gtr rfl (Eg rfl rfl id) eV) ?_
 refine Y1 (Yv.pickOr (t := .const (.bool true)) rfl eV (Eg rfl rfl id)) ?_
 refine ym ?_
 refine gF (Yv.fieldBox rfl fo_56_1 eV) ?_
 refine gF (Yv.loadBox rfl ag_54 (i := 0) rfl (Eg rfl rfl id) rfl) ?_
 refine gF (Yv.lenSl rfl so_54 (B rfl) (Eg rfl rfl id) len_data) ?_
 refine gF (Yv.fieldBox rfl fo_56_2 eV) ?_
 refine gF (Yv.loadBox rfl ag_3 (i := 0) rfl (Eg rfl rfl id) rfl) ?_
 refine gF (Yv.subN_i64 rfl (E rfl rfl) (Eg rfl rfl id) (fun hg => by first | omega | (simp only [Bool.and_eq_true, Bool.or_eq_false_iff, Bool.not_eq_true', Bool.not_eq_false', decide_eq_true_eq, decide_eq_false_iff_not] at hg; omega))) ?_
 refine gF (Yv.gtr rfl (Eg rfl rfl id) (Eg rfl rfl id)) ?_
 refine Y1 (Yv.pickOr (t := .const (.bool true)) rfl eV (Eg rfl rfl id)) (nl ?_)
 refine AW.cond rfl (fun h0t => ?_) (fun h0f => ?_)
 ·try replace h0t := odt h0t
  refine ra ?_
  refine AW.ret (retI (.tmp rfl .nil) ?_)
  show zi _ = zi _
  rw [check_0 h0t]
 try replace h0f := odf h0f
 refine AW.skip ?_
 refine ra ?_
 refine AW.seq ?_
 refine ra ?_
 refine AW.block ?_
 refine AW.loop (fun (j : Nat) => [(1, true, pv b1), (3, true, .v (.int .i64 (sumC p j : Int))), (4, true, .v (.int .i64 (j : Int)))]) (fun (j : Nat) => [.box b1 56 (progCells p)]) (fun (j : Nat) => j ≤ p.funs.length) (fun (j : Nat) => p.funs.length - j) 0 ?_ ?_ ?_ ?_
 ·exact Nat.zero_le _
 ·exact (su (su (su sn)))
 ·rfl
 intro j hinv
 refine AW.seq ?_
 refine rs (ym ?_)
 refine yf fo_56_0 ?_
 refine yl ag_53 0 ?_
 refine Y1 (Yv.lenSl rfl so_53 (B rfl) eV len_funs) ?_
 refine Y1 (Yv.lss rfl eV eV) (nl ?_)
 refine AW.cond rfl (fun h1t => ?_) (fun h1f => ?_)
 ·try replace h1t := odt h1t
  have hj : j < p.funs.length := by omega
  have hs1 := sumC_le p (j + 1)
  have hs2 := sumC_succ hj
  refine AW.skip ?_
  refine AW.seq ?_
  refine AW.block ?_
  refine rs (ym ?_)
  refine yf fo_56_0 ?_
  refine yl ag_53 0 ?_
  refine ym ?_
  refine Y1 (Yv.indexSl rfl ss_53 (B rfl) eV eV (fun hg => ⟨rfl, (by first | omega | (simp only [len_code, len_funs, len_args, len_data]; omega))⟩)) ?_
  refine Y1 (Yv.fieldRp rfl fo_93_4 eV) ?_
  refine Y1 (Yv.loadRp rfl ag_91 eV (fun hg => fcode_at (by omega))) ?_
  refine Y1 (Yv.lenSl rfl so_91 (B rfl) eV len_code) ?_
  refine Y1 (Yv.addN_i64 rfl eV eV (fun hg => by omega)) ?_
  refine ya ?_
  refine rs (ym ?_)
  refine Y1 (Yv.gtr rfl eV eV) (nl ?_)
  refine AW.cond rfl (fun h2t => ?_) (fun h2f => ?_)
  ·try replace h2t := odt h2t
   exfalso; omega
  try replace h2f := odf h2f
  refine AW.skip ?_
  refine AW.region ?_
  refine ym ?_
  refine Y1 (Yv.addN_i64 rfl eV eV (fun hg => by omega)) ?_
  refine ya ?_
  refine ⟨j + 1, by omega, by omega, (su (Sub.cons rfl (by rw [sumC_succ hj]; simp) (Sub.cons rfl (by simp) Sub.nil))), rfl⟩
 try replace h1f := odf h1f
 have hs3 := sumC_le p p.funs.length
 refine AW.exit ?_
 refine AW.seq ?_
 refine ra ?_
 refine AW.block ?_
 refine AW.loop (fun (j : Nat) => [(1, true, pv b1), (5, true, .v (.int .i64 (j : Int)))]) (fun (j : Nat) => [.box b1 56 (progCells p)]) (fun (j : Nat) => j ≤ p.funs.length ∧ ∀ k, k < j → funR p (p.funs.getD k default) = true) (fun (j : Nat) => p.funs.length - j) 0 ?_ ?_ ?_ ?_
 ·exact ⟨Nat.zero_le _, fun k hk => absurd hk (Nat.not_lt_zero k)⟩
 ·exact (su (su sn))
 ·rfl
 intro j hinv
 obtain ⟨hj2, hfr⟩ := hinv
 refine AW.seq ?_
 refine rs (ym ?_)
 refine yf fo_56_0 ?_
 refine yl ag_53 0 ?_
 refine Y1 (Yv.lenSl rfl so_53 (B rfl) eV len_funs) ?_
 refine Y1 (Yv.lss rfl eV eV) (nl ?_)
 refine AW.cond rfl (fun h3t => ?_) (fun h3f => ?_)
 ·try replace h3t := odt h3t
  have hjl : j < p.funs.length := by omega
  have hfi := hp.fn _ (getD_mem hjl)
  have hfc := hfi.code
  refine AW.skip ?_
  refine AW.seq ?_
  refine AW.block ?_
  refine rs (yf fo_56_0 ?_)
  refine yl ag_53 0 ?_
  refine ym ?_
  refine Y1 (Yv.indexSl rfl ss_53 (B rfl) eV eV (fun hg => ⟨rfl, (by first | omega | (simp only [len_code, len_funs, len_args, len_data]; omega))⟩)) ?_
  refine Y1 (Yv.loadRpA rfl ag_93 eV (fun hg => fn_cells (by omega))) ?_
  refine AWL.allocOp rfl rfl (B rfl) rfl zc_93 (fun b6 => ?_)
  refine AWL.storeBox (i := 1) rfl rfl rfl ag_93 rfl (E rfl rfl) (E rfl rfl) rfl rfl nB (nl ?_)
  refine AW.eqS (S' := [.box b1 56 (progCells p), .box b6 93 (fnCells (p.funs.getD j default))]) rfl ?_
  refine AW.seq ?_
  refine rs (yf fo_93_1 ?_)
  refine yl ag_3 1 ?_
  refine Y1 (Yv.lss rfl eV eV) ?_
  refine ym ?_
  refine gF (Yv.fieldBox rfl fo_93_1 eV) ?_
  refine gF (Yv.loadBox rfl ag_3 (i := 1) rfl (Eg rfl rfl id) rfl) ?_
  refine gF (Yv.gtr rfl (Eg rfl rfl id) eV) ?_
  refine Y1 (Yv.pickOr (t := .const (.bool true)) rfl eV (Eg rfl rfl id)) ?_
  refine ym ?_
  refine gF (Yv.fieldBox rfl fo_93_1 eV) ?_
  refine gF (Yv.loadBox rfl ag_3 (i := 1) rfl (Eg rfl rfl id) rfl) ?_
  refine gF (Yv.fieldBox rfl fo_93_2 eV) ?_
  refine gF (Yv.loadBox rfl ag_3 (i := 1) rfl (Eg rfl rfl id) rfl) ?_
  refine gF (Yv.gtr rfl (Eg rfl rfl id) (Eg rfl rfl id)) ?_
  refine Y1 (Yv.pickOr (t := .const (.bool true)) rfl eV (Eg rfl rfl id)) ?_
  refine ym ?_
  refine gF (Yv.fieldBox rfl fo_93_2 eV) ?_
  refine gF (Yv.loadBox rfl ag_3 (i := 1) rfl (Eg rfl rfl id) rfl) ?_
  refine gF (Yv.gtr rfl (Eg rfl rfl id) eV) ?_
  refine Y1 (Yv.pickOr (t := .const (.bool true)) rfl eV (Eg rfl rfl id)) ?_
  refine ym ?_
  refine gF (Yv.fieldBox rfl fo_93_3 eV) ?_
  refine gF (Yv.loadBox rfl ag_3 (i := 1) rfl (Eg rfl rfl id) rfl) ?_
  refine gF (Yv.lss rfl (Eg rfl rfl id) eV) ?_
  refine Y1 (Yv.pickOr (t := .const (.bool true)) rfl eV (Eg rfl rfl id)) ?_
  refine ym ?_
  refine gF (Yv.fieldBox rfl fo_93_3 eV) ?_
  refine gF (Yv.loadBox rfl ag_3 (i := 1) rfl (Eg rfl rfl id) rfl) ?_
  refine gF (Yv.gtr rfl (Eg rfl rfl id) eV) ?_
  refine Y1 (Yv.pickOr (t := .const (.bool true)) rfl eV (Eg rfl rfl id)) ?_
  refine ym ?_
  refine gF (Yv.fieldBox rfl fo_93_4 eV) ?_
  refine gF (Yv.loadBox rfl ag_91 (i := 1) rfl (Eg rfl rfl id) rfl) ?_
  refine gF (Yv.lenSl rfl so_91 (B rfl) (Eg rfl rfl id) len_code) ?_
  refine gF (Yv.eql rfl (Eg rfl rfl id) eV) ?_
  refine Y1 (Yv.pickOr (t := .const (.bool true)) rfl eV (Eg rfl rfl id)) (nl ?_)
  refine AW.cond rfl (fun h4t => ?_) (fun h4f => ?_)
  ·try replace h4t := odt h4t
   refine ra ?_
   refine AW.ret (retI (.tmp rfl .nil) ?_)
   show zi _ = zi _
   rw [check_bad h0f (by have := sumC_le p p.funs.length; omega) hjl (fun_1 h4t)]
  try replace h4f := odf h4f
  have hc0 : 0 < (p.funs.getD j default).code.length := fb_code h4f
  refine AW.skip ?_
  refine rs (yf fo_93_4 ?_)
  refine yl ag_91 1 ?_
  refine yf fo_93_4 ?_
  refine yl ag_91 1 ?_
  refine Y1 (Yv.lenSl rfl so_91 (B rfl) eV len_code) ?_
  refine Y1 (Yv.subN_i64 rfl eV eV (fun hg => by omega)) ?_
  refine Y1 (Yv.indexSl (j := ((p.funs.getD j default).code.length - 1)) rfl ss_91 (B rfl) eV eV (fun hg => ⟨by omega, by rw [len_code]; omega⟩)) ?_
  refine Y1 (Yv.fieldRp rfl fo_98_0 eV) ?_
  refine Y1 (Yv.loadRp rfl ag_3 eV (fun hg => ikind_at (by omega))) ?_
  refine AWL.callP rfl rfl (B rfl) rfl ce_37 (E rfl rfl) (evsC (E rfl rfl) evs0) (Ends21 (lastK (p.funs.getD j default))) (fun t S h => h) ?_
  refine ya ?_
  refine rs (Y1 (Yv.loadBoxA rfl ag_93 (i := 1) rfl eV rfl rfl) ?_)
  refine C1 rfl ce_38 (E rfl rfl) (evsC (E rfl rfl) evs0) (S1 := []) (S2 := _) rfl (Labels22 (p.funs.getD j default) hfi.code) ?_
  rintro t121 S121 ⟨m8, w8, rfl, rfl⟩
  refine ym ?_
  refine Y1 (Yv.extract rfl eV rfl) ?_
  refine Y1 (Yv.extract rfl eV rfl) ?_
  refine Y1 (Yv.assign rfl eV) ?_
  refine ya ?_
  refine AW.seq ?_
  refine rs (ym ?_)
  refine Y1 (Yv.not rfl eV) (nl ?_)
  refine AW.cond rfl (fun h5t => ?_) (fun h5f => ?_)
  ·try replace h5t := odt h5t
   refine ra ?_
   refine AW.ret (retI (.tmp rfl .nil) ?_)
   show zi _ = zi _
   rw [check_bad h0f (by have := sumC_le p p.funs.length; omega) hjl (fun_2 (by simpa using h5t))]
  try replace h5f := odf h5f
  have hend : endsF (lastK (p.funs.getD j default)) = true := by simpa using h5f
  refine AW.skip ?_
  refine ra ?_
  refine AW.block ?_
  refine AW.loop (fun (q : Nat) => [(1, true, pv b1), (5, true, .v (.int .i64 (j : Int))), (6, true, pv b6), (8, true, .v (.map (some m8))), (10, true, .v (.int .i64 (q : Int)))]) (fun (q : Nat) => [.map m8 (lmT (cntL (p.funs.getD j default).code)), .map w8 (lmT (whL (p.funs.getD j default).code)), .box b1 56 (progCells p), .box b6 93 (fnCells (p.funs.getD j default))]) (fun (q : Nat) => q ≤ (p.funs.getD j default).code.length ∧ ∀ k, k < q → mayR p (p.funs.getD j default) (cntL (p.funs.getD j default).code) ((p.funs.getD j default).code.getD k default) = true) (fun (q : Nat) => (p.funs.getD j default).code.length - q) 0 ?_ ?_ ?_ ?_
  ·exact ⟨Nat.zero_le _, fun k hk => absurd hk (Nat.not_lt_zero k)⟩
  ·exact (su (su (su (su (su sn)))))
  ·rfl
  intro q hin3
  obtain ⟨hq, hmr⟩ := hin3
  refine AW.seq ?_
  refine rs (ym ?_)
  refine yf fo_93_4 ?_
  refine yl ag_91 3 ?_
  refine Y1 (Yv.lenSl rfl so_91 (B rfl) eV len_code) ?_
  refine Y1 (Yv.lss rfl eV eV) (nl ?_)
  refine AW.cond rfl (fun h6t => ?_) (fun h6f => ?_)
  ·try replace h6t := odt h6t
   have hq2 : q < (p.funs.getD j default).code.length := by omega
   refine AW.skip ?_
   refine AW.seq ?_
   refine AW.block ?_
   refine AW.rseqP rfl ?_
   refine AWP.phase [true, true, true, true, true, true, true, true] 2 rfl (by kernel_rfl) (by kernel_rfl) ?_
   refine Q1 (Yv.loadBoxA rfl ag_56 (i := 2) rfl eV rfl rfl) ?_
   refine Q1 (Yv.loadBoxA rfl ag_93 (i := 3) rfl eV rfl rfl) ?_
   refine qm ?_
   refine qf fo_93_4 ?_
   refine ql ag_91 3 ?_
   refine qm ?_
   refine Q1 (Yv.indexSl rfl ss_91 (B rfl) eV eV (fun hg => ⟨rfl, (by first | omega | (simp only [len_code, len_funs, len_args, len_data]; omega))⟩)) ?_
   refine Q1 (Yv.loadRpA rfl ag_98 eV (fun hg => ins_cells (by omega))) ?_
   refine AWQ.nil ?_
   refine p1 8 ?_
   refine AWL.callK rfl rfl (B rfl) rfl ce_39 (E rfl rfl) (evsC (E rfl rfl) (evsC (E rfl rfl) (evsC (E rfl rfl) (evsC (E rfl rfl) evs0)))) (S1 := [.map m8 (lmT (cntL (p.funs.getD j default).code))]) (S2 := _) rfl (may23 p (p.funs.getD j default) (cntL (p.funs.getD j default).code) ((p.funs.getD j default).code.getD q default) m8 hp (hfi.ins _ (getD_mem hq2)) (pb_zero h0f)) (fun t S h => h) (nl ?_)
   refine p1 9 ?_
   refine ya ?_
   refine AWP.done (by kernel_rfl) ?_
   refine rs (ym ?_)
   refine Y1 (Yv.not rfl eV) (nl ?_)
   refine AW.cond rfl (fun h7t => ?_) (fun h7f => ?_)
   ·try replace h7t := odt h7t
    refine ra ?_
    refine AW.ret (retI (.tmp rfl .nil) ?_)
    show zi _ = zi _
    rw [check_bad h0f (by have := sumC_le p p.funs.length; omega) hjl (fun_3 hq2 (by simpa using h7t))]
   try replace h7f := odf h7f
   refine AW.skip ?_
   refine AW.region ?_
   refine ym ?_
   refine Y1 (Yv.addN_i64 rfl eV eV (fun hg => by omega)) ?_
   refine ya ?_
   refine ⟨q + 1, ⟨by omega, fun k hk => ?_⟩, by omega, (su (su (su (su (Sub.cons rfl (by simp) Sub.nil))))), rfl⟩
   rcases Nat.lt_or_ge k q with h | h
   ·exact hmr k h
   obtain rfl : k = q := by omega
   simpa using h7f
  try replace h6f := odf h6f
  refine AW.exit ?_
  refine AW.dropAt 0 ?_
  refine AW.dropAt 0 ?_
  refine AW.dropAt 1 ?_
  refine AW.region ?_
  refine ym ?_
  refine Y1 (Yv.addN_i64 rfl eV eV (fun hg => by omega)) ?_
  refine ya ?_
  refine ⟨j + 1, ⟨by omega, fun k hk => ?_⟩, by omega, (su (Sub.cons rfl (by simp) Sub.nil)), rfl⟩
  rcases Nat.lt_or_ge k j with h | h
  ·exact hfr k h
  obtain rfl : k = j := by omega
  exact fun_ok h4f hend (fun k hk => hmr k (by omega))
 try replace h3f := odf h3f
 refine AW.exit ?_
 refine ra ?_
 refine AW.ret (retI (.tmp rfl .nil) ?_)
 show zi _ = zi _
 rw [check_ok h0f (by have := sumC_le p p.funs.length; omega) (fun k hk => hfr k (by omega))]

end Go.Proofs.YtpgbpdnmjeoeoaaGreat

namespace Go.Proofs.YtpgbpdnmjeoeoaaGreat
open Go Go.RowKit
def rd1 (i : Ins) : List Int := if (hasF i.kind).a = true then [i.a] else []
def rd2 (i : Ins) : List Int := rd1 i ++ if (hasF i.kind).b = true then [i.b] else []
def readsF (i : Ins) : List Int := rd2 i ++ if (hasF i.kind).args = true then i.args else []
def nx1 (wh : LM) (i : Ins) : List Int := if i.kind = 20 ∨ i.kind = 21 then [getL i.l wh] else []
def nextF (wh : LM) (i : Ins) (k : Nat) : List Int := nx1 wh i ++ if endsF i.kind = true then [] else [(k : Int) + 1]
theorem nx1_t {wh : LM} {i : Ins} (h : i.kind = 20 ∨ i.kind = 21) : nx1 wh i = [getL i.l wh] := if_pos h
structure InsOk (p : Prog) (f : Fn) (many : LM) (i : Ins) : Prop where
 is : isF i.kind = true
 d : (hasF i.kind).d = true → 0 ≤ i.d ∧ i.d < f.regs
 a : (hasF i.kind).a = true → 0 ≤ i.a ∧ i.a < f.regs
 b : (hasF i.kind).b = true → 0 ≤ i.b ∧ i.b < f.regs
 args : (hasF i.kind).args = true → (∀ r ∈ i.args, 0 ≤ r ∧ r < f.regs) ∧ (i.args.length : Int) ≤ mostF i.kind
 cond : (hasF i.kind).cond = true → 1 ≤ i.cond ∧ i.cond ≤ 6
 size : (hasF i.kind).size = true → i.size = 1 ∨ i.size = 4 ∨ i.size = 8
 lab : (hasF i.kind).l = true → getL i.l many = 1
 fn : (hasF i.kind).f = true → 0 ≤ i.f ∧ i.f.toNat < p.funs.length
 par : (hasF i.kind).args = true → (hasF i.kind).f = true → (i.args.length : Int) = parF p i.f
 slot : i.kind = 31 ∨ i.kind = 32 → 0 ≤ i.imm ∧ i.imm < f.slots
 real : i.kind = 16 → 1 ≤ i.real ∧ i.real ≤ 8
 off : i.kind = 17 ∨ i.kind = 18 → -2147483648 ≤ i.imm ∧ i.imm ≤ 2147483647
 dat : i.kind = 27 → 0 ≤ i.imm ∧ i.imm ≤ p.data.length + p.zero
theorem may_ok {p : Prog} {f : Fn} {many : LM} {i : Ins} (h : mayR p f many i = true) : InsOk p f many i := by
 cases h0 : isF i.kind with
 | false => rw [may_0 (by rw [h0]; rfl)] at h; cases h
 | true =>
 have h0' : (!isF i.kind) = false := by rw [h0]; rfl
 cases h1 : badRB (hasF i.kind) f.regs i with
 | true => rw [may_1 h0' h1] at h; cases h
 | false =>
 cases h2 : badCB (hasF i.kind) i with
 | true => rw [may_2 h0' h1 h2] at h; cases h
 | false =>
 cases h3 : badLB (hasF i.kind) p.funs.length many i with
 | true => rw [may_3 h0' h1 h2 h3] at h; cases h
 | false =>
 cases h4 : badAB (hasF i.kind) f.regs i with
 | true => rw [may_4 h0' h1 h2 h3 h4] at h; cases h
 | false =>
 cases h5 : badNB (hasF i.kind) p i with
 | true => rw [may_5 h0' h1 h2 h3 h4 h5] at h; cases h
 | false =>
 rw [may_6 h0' h1 h2 h3 h4 h5] at h
 have q1 := h1
 unfold badRB at q1
 simp only [Bool.or_eq_false_iff, Bool.and_eq_false_iff, decide_eq_false_iff_not] at q1
 have q2 := h2
 unfold badCB at q2
 simp only [Bool.or_eq_false_iff, Bool.and_eq_false_iff, decide_eq_false_iff_not, Bool.not_eq_false', decide_eq_true_eq] at q2
 have q3 := h3
 unfold badLB at q3
 simp only [Bool.or_eq_false_iff, Bool.and_eq_false_iff, decide_eq_false_iff_not, Bool.not_eq_false', decide_eq_true_eq] at q3
 have q5 := h5
 unfold badNB at q5
 simp only [Bool.or_eq_false_iff, Bool.and_eq_false_iff, decide_eq_false_iff_not, Bool.not_eq_false', decide_eq_true_eq] at q5
 refine ⟨h0, fun e => ?_, fun e => ?_, fun e => ?_, fun e => ⟨fun r hr => ?_, ?_⟩, fun e => ?_, fun e => ?_, fun e => ?_, fun e => lb_lt h3 e, fun e e' => ?_, fun e => ?_, fun e => ?_, fun e => ?_, fun e => ?_⟩
 ·rw [e] at q1; simp at q1; omega
 ·rw [e] at q1; simp at q1; omega
 ·rw [e] at q1; simp at q1; omega
 ·have q4 := h4
  unfold badAB at q4
  rw [e, Bool.true_and, List.any_eq_false] at q4
  have := q4 r hr
  unfold outB at this
  simp at this
  omega
 ·rw [e] at q5; simp at q5; omega
 ·rw [e] at q2; simp at q2; omega
 ·rw [e] at q2; simp at q2; omega
 ·rw [e] at q3; simp at q3; omega
 ·rw [e, e'] at q5; simp at q5; exact q5.2
 ·unfold restB at h
  rw [if_neg (by omega), if_neg (by omega), if_neg (by omega), if_pos e] at h
  simp only [Bool.and_eq_true, decide_eq_true_eq] at h
  exact h
 ·unfold restB at h
  rw [if_pos e] at h
  simp only [Bool.and_eq_true, decide_eq_true_eq] at h
  exact h
 ·unfold restB at h
  rw [if_neg (by omega), if_pos e] at h
  simp only [Bool.and_eq_true, decide_eq_true_eq] at h
  exact h
 unfold restB at h
 rw [if_neg (by omega), if_neg (by omega), if_pos e] at h
 simp only [Bool.and_eq_true, decide_eq_true_eq] at h
 exact h
structure FnOk (p : Prog) (f : Fn) : Prop where
 par0 : 0 ≤ f.params
 par1 : f.params ≤ 4
 par2 : f.params ≤ f.regs
 regs : f.regs ≤ 65536
 slot0 : 0 ≤ f.slots
 slot1 : f.slots ≤ 1048576
 code : 0 < f.code.length
 last : endsF (lastK f) = true
 ins : ∀ i ∈ f.code, InsOk p f (cntL f.code) i
theorem fun_good {p : Prog} {f : Fn} (h : funR p f = true) : FnOk p f := by
 unfold funR at h
 rw [Bool.and_eq_true, Bool.and_eq_true, Bool.not_eq_true', List.all_eq_true] at h
 have q := h.1.1
 unfold badFB at q
 simp only [Bool.or_eq_false_iff, decide_eq_false_iff_not] at q
 exact ⟨by omega, by omega, by omega, by omega, by omega, by omega, by omega, h.1.2, fun i hi => may_ok (h.2 i hi)⟩
structure ProgOk (p : Prog) : Prop where
 first : (p.funs.getD 0 default).params = 0
 some : 0 < p.funs.length
 zero : 0 ≤ p.zero ∧ p.zero ≤ 268435456
 data : p.data.length + p.zero ≤ 268435456
 fn : ∀ f ∈ p.funs, FnOk p f
theorem check_good {p : Prog} (h : checkR p = 0) : ProgOk p := by
 unfold checkR at h
 cases hp : badPB p with
 | true => rw [if_pos hp] at h; cases h
 | false =>
  rw [if_neg (by rw [hp]; decide)] at h
  split at h
  ·cases h
  split at h
  ·rename_i ha
   rw [List.all_eq_true] at ha
   have q := hp
   unfold badPB at q
   simp only [Bool.or_eq_false_iff, decide_eq_false_iff_not, Bool.not_eq_false', decide_eq_true_eq] at q
   exact ⟨by omega, by omega, by omega, by omega, fun f hf => fun_good (ha f hf)⟩
  ·cases h
end Go.Proofs.YtpgbpdnmjeoeoaaGreat

namespace Go.Proofs.YtpgbpdnmjeoeoaaGreat
open Go Go.RowKit
def leB (a b : List Bool) : Prop := ∀ n, a.getD n false = true → b.getD n false = true
end Go.Proofs.YtpgbpdnmjeoeoaaGreat

namespace Go.Proofs.YtpgbpdnmjeoeoaaGreat
open Go Go.RowKit
theorem wh_pre {code : List Ins} (l : Int) : ∀ j, j ≤ code.length → 1 ≤ getL l (cntL (code.take j)) → 0 ≤ getL l (whT code j) ∧ getL l (whT code j) < j := by
 intro j
 induction j with
 | zero => intro _ h; simp [cntL, getL] at h
 | succ j ih =>
  intro hj h
  rw [cnt_succ (by omega)] at h
  rw [wh_succ (by omega)]
  have ih := ih (by omega)
  unfold cntStep at h
  unfold whStep
  by_cases hk : (code.getD j default).kind = 19
  ·rw [if_pos hk] at h ⊢
   rw [getL_put] at h ⊢
   by_cases hl : l = (code.getD j default).l
   ·rw [if_pos hl]; constructor <;> simp only <;> omega
   ·rw [if_neg hl] at h ⊢
    have := ih h
    omega
  ·rw [if_neg hk] at h ⊢
   have := ih h
   omega
theorem wh_in {code : List Ins} {l : Int} (h : 1 ≤ getL l (cntL code)) : 0 ≤ getL l (whL code) ∧ getL l (whL code) < code.length := by
 have := wh_pre (code := code) l code.length (Nat.le_refl _) (by rw [List.take_length]; exact h)
 rwa [wh_all (Nat.le_refl _)] at this
theorem next_in {p : Prog} {f : Fn} (hf : FnOk p f) {k : Nat} (hk : k < f.code.length) : ∀ l ∈ nextF (whL f.code) (f.code.getD k default) k, 0 ≤ l ∧ l.toNat < f.code.length := by
 intro l hl
 unfold nextF at hl
 rcases List.mem_append.1 hl with hl | hl
 ·unfold nx1 at hl
  split at hl
  ·rename_i hk2
   rw [List.mem_singleton] at hl
   subst hl
   have hlab := (hf.ins _ (getD_mem hk)).lab (by rcases hk2 with h | h <;> rw [h] <;> rfl)
   have := wh_in (code := f.code) (l := (f.code.getD k default).l) (by omega)
   omega
  cases hl
 split at hl
 ·cases hl
 rename_i he
 rw [List.mem_singleton] at hl
 subst hl
 have : k + 1 ≠ f.code.length := fun e => he (by
  have h1 := hf.last
  unfold lastK at h1
  rwa [show f.code.length - 1 = k by omega] at h1)
 omega
structure Sl where
 A : Option Addr
 c : Nat
 v : Option (List Bool)
 deriving Inhabited
def Sl.bits (s : Sl) : List Bool := s.v.getD []
section
variable {cx : Cx} {env : Env} {S : St} {ops : Array Oper} {l : List Oper} {code : Code} {K : Env → St → Prop} {Q : Exit → Env → St → Prop}
end
end Go.Proofs.YtpgbpdnmjeoeoaaGreat

namespace Go.Proofs.YtpgbpdnmjeoeoaaGreat
open Go Go.RowKit
abbrev Wd64 := BitVec 64
def zw (a : Wd64) : T := .v (.int .u64 (a.toNat : Int))
theorem wrap_u64 (z : Int) : IntKind.u64.wrap z = z % 18446744073709551616 := by
 unfold IntKind.wrap
 simp [IntKind.signed, IntKind.bits]
theorem wrap_nat (a : Wd64) : IntKind.u64.wrap (a.toNat : Int) = a.toNat := by
 rw [wrap_u64]
 have := a.isLt
 omega
theorem ofInt_word (a : Wd64) : BitVec.ofInt 64 (a.toNat : Int) = a := by
 apply BitVec.eq_of_toNat_eq
 rw [BitVec.toNat_ofInt]
 have := a.isLt
 omega
theorem bits_and (a b : Wd64) : bitsOf .and .u64 (a.toNat : Int) (b.toNat : Int) = ((a &&& b).toNat : Int) := by
 show IntKind.u64.wrap ((BitVec.ofInt 64 (a.toNat : Int) &&& BitVec.ofInt 64 (b.toNat : Int)).toNat : Int) = _
 rw [ofInt_word, ofInt_word, wrap_nat]
theorem bits_or (a b : Wd64) : bitsOf .or .u64 (a.toNat : Int) (b.toNat : Int) = ((a ||| b).toNat : Int) := by
 show IntKind.u64.wrap ((BitVec.ofInt 64 (a.toNat : Int) ||| BitVec.ofInt 64 (b.toNat : Int)).toNat : Int) = _
 rw [ofInt_word, ofInt_word, wrap_nat]
theorem bits_xor (a b : Wd64) : bitsOf .xor .u64 (a.toNat : Int) (b.toNat : Int) = ((a ^^^ b).toNat : Int) := by
 show IntKind.u64.wrap ((BitVec.ofInt 64 (a.toNat : Int) ^^^ BitVec.ofInt 64 (b.toNat : Int)).toNat : Int) = _
 rw [ofInt_word, ofInt_word, wrap_nat]
theorem shl_word (a : Wd64) {n : Nat} (hn : n < 64) : shlOf .u64 (a.toNat : Int) (n : Int) = ((a <<< n).toNat : Int) := by
 unfold shlOf
 rw [wrap_u64, BitVec.toNat_shiftLeft, Nat.shiftLeft_eq, show min (n : Int).toNat IntKind.u64.bits = n from by show min n 64 = n; omega, Int.natCast_emod, Int.natCast_mul, Int.natCast_pow]
 rfl
theorem shr_word (a : Wd64) {n : Nat} (hn : n < 64) : shrOf .u64 (a.toNat : Int) (n : Int) = ((a >>> n).toNat : Int) := by
 unfold shrOf
 rw [BitVec.toNat_ushiftRight, Nat.shiftRight_eq_div_pow, show min (n : Int).toNat IntKind.u64.bits = n from by show min n 64 = n; omega]
 rw [Int.fdiv_eq_ediv_of_nonneg _ (by have : (0 : Int) < 2 ^ n := Int.pow_pos (by decide); omega), Int.natCast_ediv, Int.natCast_pow]
 rfl
theorem word_inj (a b : Wd64) : decide ((a.toNat : Int) = (b.toNat : Int)) = decide (a = b) := by
 apply decide_eq_decide.2
 constructor
 ·intro h; exact BitVec.eq_of_toNat_eq (by omega)
 intro h; rw [h]
theorem word_lt (a b : Wd64) : decide ((a.toNat : Int) < (b.toNat : Int)) = decide (a < b) := by
 apply decide_eq_decide.2
 rw [BitVec.lt_def]
 omega
theorem word_le (a b : Wd64) : decide ((a.toNat : Int) ≤ (b.toNat : Int)) = decide (a ≤ b) := by
 apply decide_eq_decide.2
 rw [BitVec.le_def]
 omega
theorem add_word (a b : Wd64) : IntKind.u64.wrap ((a.toNat : Int) + (b.toNat : Int)) = ((a + b).toNat : Int) := by
 rw [wrap_u64, BitVec.toNat_add, Int.natCast_emod, Int.natCast_add]; rfl
theorem mul_word (a b : Wd64) : IntKind.u64.wrap ((a.toNat : Int) * (b.toNat : Int)) = ((a * b).toNat : Int) := by
 rw [wrap_u64, BitVec.toNat_mul, Int.natCast_emod, Int.natCast_mul]; rfl
theorem sub_word (a b : Wd64) : IntKind.u64.wrap ((a.toNat : Int) - (b.toNat : Int)) = ((a - b).toNat : Int) := by
 rw [wrap_u64, BitVec.toNat_sub]
 have := a.isLt
 have := b.isLt
 omega
section
variable {cx : Cx} {env : Env} {S : St} {o : Oper} {g : Bool} {x y z : Operand} {d : Nat}
theorem Yv.andW {ty yt : TypeId} {a b : Wd64} (ho : o.op = .binOp .and ty x y yt) (hx : Ev env g x (zw a)) (hy : Ev env g y (zw b)) : Yv cx o env S g (zw (a &&& b)) := by
 have h := Yv.bits (cx := cx) (S := S) ho rfl hx hy; rw [bits_and] at h; exact h
theorem Yv.orW {ty yt : TypeId} {a b : Wd64} (ho : o.op = .binOp .or ty x y yt) (hx : Ev env g x (zw a)) (hy : Ev env g y (zw b)) : Yv cx o env S g (zw (a ||| b)) := by
 have h := Yv.bits (cx := cx) (S := S) ho rfl hx hy; rw [bits_or] at h; exact h
theorem Yv.xorW {ty yt : TypeId} {a b : Wd64} (ho : o.op = .binOp .xor ty x y yt) (hx : Ev env g x (zw a)) (hy : Ev env g y (zw b)) : Yv cx o env S g (zw (a ^^^ b)) := by
 have h := Yv.bits (cx := cx) (S := S) ho rfl hx hy; rw [bits_xor] at h; exact h
theorem Yv.shlW {ty yt : TypeId} {k : IntKind} {a : Wd64} {n : Nat} (ho : o.op = .binOp .shl ty x y yt) (hx : Ev env g x (zw a)) (hy : Ev env g y (.v (.int k (n : Int)))) (hn : n < 64) : Yv cx o env S g (zw (a <<< n)) := by
 have h := Yv.shl (cx := cx) (S := S) ho hx hy (fun _ => by omega); rw [shl_word a hn] at h; exact h
theorem Yv.shrW {ty yt : TypeId} {k : IntKind} {a : Wd64} {n : Nat} (ho : o.op = .binOp .shr ty x y yt) (hx : Ev env g x (zw a)) (hy : Ev env g y (.v (.int k (n : Int)))) (hn : n < 64) : Yv cx o env S g (zw (a >>> n)) := by
 have h := Yv.shr (cx := cx) (S := S) ho hx hy (fun _ => by omega); rw [shr_word a hn] at h; exact h
theorem Yv.eqlW {ty yt : TypeId} {a b : Wd64} (ho : o.op = .binOp .eql ty x y yt) (hx : Ev env g x (zw a)) (hy : Ev env g y (zw b)) : Yv cx o env S g (.v (.bool (decide (a = b)))) := by
 have h := Yv.eql (cx := cx) (S := S) ho hx hy; rw [word_inj] at h; exact h
theorem Yv.neqW {ty yt : TypeId} {a b : Wd64} (ho : o.op = .binOp .neq ty x y yt) (hx : Ev env g x (zw a)) (hy : Ev env g y (zw b)) : Yv cx o env S g (.v (.bool (!decide (a = b)))) := by
 have h := Yv.neq (cx := cx) (S := S) ho hx hy; rw [word_inj] at h; exact h
theorem Yv.lssW {ty yt : TypeId} {a b : Wd64} (ho : o.op = .binOp .lss ty x y yt) (hx : Ev env g x (zw a)) (hy : Ev env g y (zw b)) : Yv cx o env S g (.v (.bool (decide (a < b)))) := by
 have h := Yv.lss (cx := cx) (S := S) ho hx hy; rw [word_lt] at h; exact h
theorem Yv.leqW {ty yt : TypeId} {a b : Wd64} (ho : o.op = .binOp .leq ty x y yt) (hx : Ev env g x (zw a)) (hy : Ev env g y (zw b)) : Yv cx o env S g (.v (.bool (decide (a ≤ b)))) := by
 have h := Yv.leq (cx := cx) (S := S) ho hx hy; rw [word_le] at h; exact h
theorem Yv.gtrW {ty yt : TypeId} {a b : Wd64} (ho : o.op = .binOp .gtr ty x y yt) (hx : Ev env g x (zw a)) (hy : Ev env g y (zw b)) : Yv cx o env S g (.v (.bool (decide (b < a)))) := by
 have h := Yv.gtr (cx := cx) (S := S) ho hx hy; rw [word_lt] at h; exact h
theorem Yv.geqW {ty yt : TypeId} {a b : Wd64} (ho : o.op = .binOp .geq ty x y yt) (hx : Ev env g x (zw a)) (hy : Ev env g y (zw b)) : Yv cx o env S g (.v (.bool (decide (b ≤ a)))) := by
 have h := Yv.geq (cx := cx) (S := S) ho hx hy; rw [word_le] at h; exact h
theorem Yv.addW {ty yt : TypeId} {a b : Wd64} (ho : o.op = .binOp .add ty x y yt) (hx : Ev env g x (zw a)) (hy : Ev env g y (zw b)) : Yv cx o env S g (zw (a + b)) := by
 have h := Yv.add (cx := cx) (S := S) ho hx hy; rw [add_word] at h; exact h
theorem Yv.subW {ty yt : TypeId} {a b : Wd64} (ho : o.op = .binOp .sub ty x y yt) (hx : Ev env g x (zw a)) (hy : Ev env g y (zw b)) : Yv cx o env S g (zw (a - b)) := by
 have h := Yv.sub (cx := cx) (S := S) ho hx hy; rw [sub_word] at h; exact h
theorem Yv.mulW {ty yt : TypeId} {a b : Wd64} (ho : o.op = .binOp .mul ty x y yt) (hx : Ev env g x (zw a)) (hy : Ev env g y (zw b)) : Yv cx o env S g (zw (a * b)) := by
 have h := Yv.mul (cx := cx) (S := S) ho hx hy; rw [mul_word] at h; exact h
end
/-! ### a region that draws its order, gone through by what is done -/
section
variable {cx : Cx} {env : Env} {S : St} {ops : Array Oper} {K : Env → St → Prop}
theorem AWP.to {fuel : Nat} {listed listed' : Array Bool} {env' : Env} {S' : St} (h : AWP cx ops fuel listed' K env' S') (hl : listed = listed') (hs : S = S') (hsub : Sub env' env) : AWP cx ops fuel listed K env S := by
 subst hl; subst hs
 exact fun a w hs => h a w (hs.weaken hsub)
end
section
variable {cx : Cx} {env : Env} {S : St} {o : Oper} {x : Operand} {ops : Array Oper} {l : List Oper} {K : Env → St → Prop} {d : Nat} {t : T} {Hd : World → Prop}
theorem to' {fuel : Nat} {listed listed' : Array Bool} {env' : Env} {S' : St} (h : AWP cx ops fuel listed' K env' S') (hsub : Sub env' env) (hl : listed = listed' := by kernel_rfl) (hs : S = S' := by rfl) : AWP cx ops fuel listed K env S := AWP.to h hl hs hsub
end
end Go.Proofs.YtpgbpdnmjeoeoaaGreat

namespace Go.Proofs.YtpgbpdnmjeoeoaaGreat
open Go Go.RowKit
theorem word_at {l : List Wd64} {n : Nat} (h : n < l.length) : (l.map zw)[n * 1 + 0]? = some (zw (l.getD n 0#64)) := by
 rw [Nat.mul_one, Nat.add_zero, List.getElem?_map, List.getElem?_eq_getElem h]
 simp [h]
theorem mk_zero (n : Nat) : (List.replicate n (([Value.int .u64 0]).map T.v)).flatten = (List.replicate n 0#64).map zw := by
 induction n with
 | zero => rfl
 | succ n ih => rw [List.replicate_succ, List.flatten_cons, ih, List.replicate_succ]; rfl
end Go.Proofs.YtpgbpdnmjeoeoaaGreat

namespace Go.Proofs.YtpgbpdnmjeoeoaaGreat
open Go Go.RowKit
def zn (k : Nat) : T := .v (.int .i64 (k : Int))
end Go.Proofs.YtpgbpdnmjeoeoaaGreat

namespace Go.Proofs.YtpgbpdnmjeoeoaaGreat
open Go Go.RowKit
section
variable {cx : Cx} {env : Env} {S : St} {o : Oper} {ops : Array Oper} {l : List Oper} {K : Env → St → Prop} {Q : Exit → Env → St → Prop}
end
/-! ### cells that a region does not write: their loads are taken first -/
def HeldCs (l : List (Nat × Nat × Value)) (w : World) : Prop := ∀ q ∈ l, w.cell? ⟨q.1, q.2.1, none⟩ = some q.2.2
def Pin (t : T) (u : Value) : Prop := ∀ w L v, VRep w L t v → v = u
theorem pinV {u : Value} : Pin (.v u) u := fun _ _ _ h => h.v_inv
theorem pinE {g n c off : Nat} : Pin (.ep (.slice (some ⟨g, 0, none⟩) n c) off) (.pointer (some ⟨g, off, none⟩)) := fun _ _ _ h => by
 cases h with
 | ep => rfl
def tellE (e : Ent) (q : Nat × Nat × Value) : Prop :=
 match e with
 | .box b _ cs => b = q.1 ∧ ∃ t, cs[q.2.1]? = some t ∧ Pin t q.2.2
 | .row A _ _ _ _ cs => A = some ⟨q.1, 0, none⟩ ∧ ∃ t, cs[q.2.1]? = some t ∧ Pin t q.2.2
 | _ => False
def TellsC (S : St) (l : List (Nat × Nat × Value)) : Prop := ∀ q ∈ l, ∃ e ∈ S, tellE e q
theorem tc0 {S : St} : TellsC S [] := fun _ h => by cases h
theorem tcB {S : St} {l : List (Nat × Nat × Value)} {b p : Nat} {ty : TypeId} {cs : List T} {t : T} {u : Value} (k : Nat) (hk : S[k]? = some (.box b ty cs)) (hp : cs[p]? = some t) (hu : Pin t u) (h : TellsC S l) : TellsC S ((b, p, u) :: l) := fun q hq => by
 rcases List.mem_cons.1 hq with rfl | hq
 ·exact ⟨_, List.mem_of_getElem? hk, rfl, t, hp, hu⟩
 ·exact h q hq
theorem tcR {S : St} {l : List (Nat × Nat × Value)} {g n c k p : Nat} {e : TypeId} {cs : List T} {t : T} {u : Value} (i : Nat) (hk : S[i]? = some (.row (some ⟨g, 0, none⟩) n c e k cs)) (hp : cs[p]? = some t) (hu : Pin t u) (h : TellsC S l) : TellsC S ((g, p, u) :: l) := fun q hq => by
 rcases List.mem_cons.1 hq with rfl | hq
 ·exact ⟨_, List.mem_of_getElem? hk, rfl, t, hp, hu⟩
 ·exact h q hq
section
variable {cx : Cx} {env : Env} {S : St} {o : Oper} {x : Operand} {ops : Array Oper} {K : Env → St → Prop} {Hd : World → Prop} {d : Nat}
theorem tells_cs {l : List (Nat × Nat × Value)} (h : TellsC S l) : Tells cx (HeldCs l) env S := fun a w hs q hq => by
 obtain ⟨e, he, ht⟩ := h q hq
 obtain ⟨i, hi⟩ := List.getElem?_of_mem he
 cases e with
 | box b ty cs =>
  obtain ⟨rfl, t, h1, h2⟩ := ht
  obtain ⟨us, hh, hV⟩ := hs.box hi
  obtain ⟨u, g1, g2, _⟩ := hV.get h1
  rw [cell_of_heap hh, g1, h2 _ _ _ g2]
 | row A n c e k cs =>
  obtain ⟨rfl, t, h1, h2⟩ := ht
  obtain ⟨us, hr, hV⟩ := hs.row hi
  obtain ⟨u, g1, g2, _⟩ := hV.get h1
  rw [hr.cell g1, h2 _ _ _ g2]
 | _ => exact ht.elim
theorem heldB {l : List (Nat × Nat × Value)} {b p n : Nat} {t : TypeId} {u : Value} {r : T} (j : Nat) (ho : o.op = .load t x) (h : aggSize cx.P t = some (false, n)) (hx : Ev env true x (.v (.pointer (some ⟨b, p, none⟩)))) (hu : l[j]? = some (b, p, u)) (ht : ∀ w L, VRep w L r u) :
    ∀ a w, Sim cx env S a w → ∃ u', VRep w (cx.X ++ M S) r u' ∧ ∀ w', HeldCs l w' → (execOp a.eval o).run cx.P w' = .ok (.value u') w' := fun a w hs =>
 ⟨u, ht _ _, fun w' hd => exec_load ho w' (by rw [hx.val hs rfl]; exact run_loadAt_one h w' (hd _ (List.mem_of_getElem? hu)))⟩
theorem heldE {l : List (Nat × Nat × Value)} {g m c p n : Nat} {t : TypeId} {u : Value} {r : T} (j : Nat) (ho : o.op = .load t x) (h : aggSize cx.P t = some (false, n)) (hx : Ev env true x (.ep (.slice (some ⟨g, 0, none⟩) m c) p)) (hu : l[j]? = some (g, p, u)) (ht : ∀ w L, VRep w L r u) :
    ∀ a w, Sim cx env S a w → ∃ u', VRep w (cx.X ++ M S) r u' ∧ ∀ w', HeldCs l w' → (execOp a.eval o).run cx.P w' = .ok (.value u') w' := fun a w hs =>
 ⟨u, ht _ _, fun w' hd => exec_load ho w' (by
  have hv := hx.rep hs rfl
  generalize a.eval x = v at hv
  rw [pinE _ _ _ hv]
  exact run_loadAt_one h w' (hd _ (List.mem_of_getElem? hu)))⟩
theorem AWH.tkN {fuel i : Nat} {listed : Array Bool} {t : T} (hi : ops[i]? = some o) (hs : Region.noSelect ops = true) (hf : Region.free .any ops listed i = true) (hr : (Region.ready .any ops listed).contains i = true) (hg : o.guard = none) (hd : o.dst = some d) (hN : d < cx.N)
    (hy : ∀ a w, Sim cx env S a w → ∃ u, VRep w (cx.X ++ M S) t u ∧ ∀ w', (execOp a.eval o).run cx.P w' = .ok (.value u) w') (h : AWH cx ops Hd fuel (listed.setIfInBounds i true) K ((d, true, t) :: env) S) : AWH cx ops Hd (fuel + 1) listed K env S := AWH.take hi hs hf hr hg hd hN (heldAll hy) h
theorem AWH.to {fuel : Nat} {listed listed' : Array Bool} {env' : Env} {S' : St} (h : AWH cx ops Hd fuel listed' K env' S') (hl : listed = listed') (hs : S = S') (hsub : Sub env' env) : AWH cx ops Hd fuel listed K env S := by
 subst hl; subst hs
 exact fun a w hs => h a w (hs.weaken hsub)
theorem kpH {fuel i : Nat} {listed : Array Bool} {l : List (Nat × Nat × Value)} (h1 : TellsC S l) (h : AWH cx ops (HeldCs l) fuel (listed.setIfInBounds i true) K env S) : Tells cx (HeldCs l) env S ∧ AWH cx ops (HeldCs l) fuel (listed.setIfInBounds i true) K env S := ⟨tells_cs h1, h⟩
end
section
variable {cx : Cx} {env : Env} {S : St} {ops : Array Oper} {l : List Oper} {K : Env → St → Prop} {Q : Exit → Env → St → Prop}
theorem AW.rowSome {code : Code} {n c k : Nat} {A : Option Addr} {e : TypeId} {cs : List T} (i : Nat) (hi : S[i]? = some (.row A n c e k cs)) (hn : 0 < n * k) (h : ∀ g, A = some ⟨g, 0, none⟩ → AW cx code Q env S) : AW cx code Q env S := fun a w hs => by
 obtain ⟨us, hr, hV⟩ := hs.row hi
 obtain ⟨gb, e⟩ := hr.some (by rw [hr.1]; exact hn)
 exact h gb e a w hs
theorem AWL.rowSome {n c k : Nat} {A : Option Addr} {e : TypeId} {cs : List T} (i : Nat) (hi : S[i]? = some (.row A n c e k cs)) (hn : 0 < n * k) (h : ∀ g, A = some ⟨g, 0, none⟩ → AWL cx ops l K env S) : AWL cx ops l K env S := fun a w hs => by
 obtain ⟨us, hr, hV⟩ := hs.row hi
 obtain ⟨gb, e⟩ := hr.some (by rw [hr.1]; exact hn)
 exact h gb e a w hs
theorem AWL.eqLast {n c k : Nat} {A : Option Addr} {e : TypeId} {cs cs' : List T} (h : cs = cs') (hr : AWL cx ops l K env (S ++ [.row A n c e k cs'])) : AWL cx ops l K env (S ++ [.row A n c e k cs]) := h ▸ hr
end
section
variable {cx : Cx} {env : Env} {S : St} {o : Oper} {g : Bool} {x y : Operand}
theorem Yv.nilChkEp {b n c p : Nat} (ho : o.op = .nilCheck x) (hx : Ev env g x (.ep (.slice (some ⟨b, 0, none⟩) n c) p)) : Yv cx o env S g (.ep (.slice (some ⟨b, 0, none⟩) n c) p) := fun a w hs hg => by
 have hv := hx.rep hs hg
 refine ⟨_, hv, fun w' _ => ?_⟩
 have e := pinE _ _ _ hv
 simp [execOp, ho, e, Sem.run_pure]
theorem freeNilEp {b n c p : Nat} (ho : o.op = .nilCheck x) (hx : Ev env true x (.ep (.slice (some ⟨b, 0, none⟩) n c) p)) : ∀ a w, Sim cx env S a w → ∃ u, VRep w (cx.X ++ M S) (.ep (.slice (some ⟨b, 0, none⟩) n c) p) u ∧ ∀ w', (execOp a.eval o).run cx.P w' = .ok (.value u) w' := fun a w hs => by
 have hv := hx.rep hs rfl
 refine ⟨_, hv, fun w' => ?_⟩
 have e := pinE _ _ _ hv
 simp [execOp, ho, e, Sem.run_pure]
end
theorem ACalls.le {P : Program} {f : FuncId} {ts ts' : List T} {S0 : St} {R : T → St → Prop} (h : ACalls P f ts' S0 R) (hl : Les ts ts') : ACalls P f ts S0 R :=
 fun X w args h1 h2 h3 h4 h5 => h X w args h1 h2 h3 (h4.trans hl.len) fun j t' u ht hu => by
  have hj : j < ts.length := by
   rw [hl.len]
   exact (List.getElem?_eq_some_iff.1 ht).1
  exact hl.at_ j _ _ (List.getElem?_eq_getElem hj) ht _ _ _ (h5 j _ u (List.getElem?_eq_getElem hj) hu)
section
variable {cx : Cx} {env : Env} {S : St} {o : Oper} {x : Operand} {ops : Array Oper} {l : List Oper} {K : Env → St → Prop} {d : Nat} {t : T} {Hd : World → Prop}
theorem th {fuel : Nat} {listed listed' : Array Bool} {env' : Env} {S' : St} (h : AWH cx ops Hd fuel listed' K env' S') (hsub : Sub env' env) (hl : listed = listed' := by kernel_rfl) (hs : S = S' := by rfl) : AWH cx ops Hd fuel listed K env S := AWH.to h hl hs hsub
theorem T2 {i fuel : Nat} {listed : Array Bool} (hi : ops[i]? = some o) (hy : ∀ a w, Sim cx env S a w → ∃ u, VRep w (cx.X ++ M S) t u ∧ ∀ w', Hd w' → (execOp a.eval o).run cx.P w' = .ok (.value u) w') (h : AWH cx ops Hd fuel (listed.setIfInBounds i true) K ((d, true, t) :: env) S) (hs : Region.noSelect ops = true := by kernel_rfl) (hf : Region.free .any ops listed i = true := by kernel_rfl) (hr : (Region.ready .any ops listed).contains i = true := by kernel_rfl) (hg : o.guard = none := by rfl) (hd : o.dst = some d := by rfl) (hN : d < cx.N := by exact B rfl) : AWH cx ops Hd (fuel + 1) listed K env S := AWH.take hi hs hf hr hg hd hN hy h
end
end Go.Proofs.YtpgbpdnmjeoeoaaGreat

namespace Go.Proofs.YtpgbpdnmjeoeoaaGreat
open Go Go.RowKit
theorem simOf {P : Program} {X : List Nat} {w : World} {S0 : St} (h1 : ∀ b ∈ X, b < w.heap.size ∧ b ∉ M S0) (h2 : (M S0).Nodup) (h3 : ∀ e ∈ S0, e.holds w (X ++ M S0)) : Sim ⟨P, X, M S0, w, 0, []⟩ [] S0 { tmps := #[], defers := [] } w :=
 ⟨Keeps.refl _ _, h2, fun b hb => .inl hb, h1, h3, rfl, rfl, fun k c t hk => by simp [get] at hk⟩
theorem ACalls.frame {P : Program} {f : FuncId} {ts : List T} {S1 : St} {R : T → St → Prop} (h : ACalls P f ts S1 R) (F : St) : ACalls P f ts (S1 ++ F) (fun t S => ∃ S', R t S' ∧ S = S' ++ F) := by
 intro X w args h1 h2 h3 h4 h5
 have hs := simOf (P := P) h1 h2 h3
 obtain ⟨c1, c2, c3, c4⟩ := hs.forCall
 refine (h (X ++ M F) w args c1 c2 c3 h4 (fun j t u e1 e2 => c4 t u (h5 j t u e1 e2))).mono ?_
 rintro e w' ⟨v, t, S', rfl, hk, hnd, hfr, hent, hv, hR⟩
 have hs' := hs.called hk hnd hfr hent
 refine ⟨v, t, S' ++ F, rfl, hs'.keeps, hs'.nd, hs'.fresh, hs'.ents, ?_, S', hR, rfl⟩
 refine hv.mono (Nat.le_refl _) (fun _ _ _ => rfl) (fun b _ hm => ?_)
 rw [M_append] at hm
 simp only [List.mem_append] at hm ⊢
 rcases hm with h | h | h
 ·exact .inl (.inl h)
 ·exact .inr h
 exact .inl (.inr h)
theorem M_perm {S S' : St} (h : S.Perm S') : (M S).Perm (M S') := h.filterMap _
theorem VRep.permL {w : World} {X : List Nat} {S S' : St} {t : T} {u : Value} (h : S.Perm S') (hv : VRep w (X ++ M S) t u) : VRep w (X ++ M S') t u :=
 hv.mono (Nat.le_refl _) (fun _ _ _ => rfl) (fun b _ hm => by
  rcases List.mem_append.1 hm with q | q
  ·exact List.mem_append.2 (.inl q)
  ·exact List.mem_append.2 (.inr ((M_perm h).symm.subset q)))
theorem Ent.permL {w : World} {X : List Nat} {S S' : St} {e : Ent} (h : S.Perm S') (hv : e.holds w (X ++ M S)) : e.holds w (X ++ M S') :=
 hv.mono (Nat.le_refl _) (fun _ _ => rfl) (fun _ _ _ => rfl) (fun b _ hm => by
  rcases List.mem_append.1 hm with q | q
  ·exact List.mem_append.2 (.inl q)
  ·exact List.mem_append.2 (.inr ((M_perm h).symm.subset q)))
theorem ACalls.perm {P : Program} {f : FuncId} {ts : List T} {S0 S1 : St} {R : T → St → Prop} (h : ACalls P f ts S1 R) (hp : S0.Perm S1) : ACalls P f ts S0 R := by
 intro X w args h1 h2 h3 h4 h5
 refine (h X w args (fun b hb => ⟨(h1 b hb).1, fun q => (h1 b hb).2 ((M_perm hp).symm.subset q)⟩) ((M_perm hp).nodup_iff.1 h2) (fun e he => Ent.permL hp (h3 e (hp.symm.subset he))) h4 (fun j t u e1 e2 => VRep.permL hp (h5 j t u e1 e2))).mono ?_
 rintro e w' ⟨v, t, S', rfl, hk, hnd, hfr, hent, hv, hR⟩
 refine ⟨v, t, S', rfl, hk.mono (fun b hb _ => (M_perm hp).symm.subset hb), hnd, fun b hb => ?_, hent, hv, hR⟩
 rcases hfr b hb with q | q
 ·exact .inl ((M_perm hp).symm.subset q)
 exact .inr q
theorem ACalls.permR {P : Program} {f : FuncId} {ts : List T} {S0 : St} {R R' : T → St → Prop} (h : ACalls P f ts S0 R) (hr : ∀ t S', R t S' → ∃ S'', S''.Perm S' ∧ R' t S'') : ACalls P f ts S0 R' := fun X w args h1 h2 h3 h4 h5 =>
 (h X w args h1 h2 h3 h4 h5).mono fun e w' ⟨v, t, S', a, b, c, d, e', f', r⟩ => by
  obtain ⟨S'', hp, r'⟩ := hr t S' r
  exact ⟨v, t, S'', a, b, (M_perm hp).nodup_iff.2 c, fun b hb => d b ((M_perm hp).subset hb), fun e he => Ent.permL hp.symm (e' e (hp.subset he)), VRep.permL hp.symm f', r'⟩
theorem ACalls.part {P : Program} {f : FuncId} {ts : List T} {S0 S1 : St} {R R' : T → St → Prop} (F : St) (h : ACalls P f ts S1 R) (hp : S0.Perm (S1 ++ F)) (hr : ∀ t S', R t S' → ∃ S'', S''.Perm (S' ++ F) ∧ R' t S'') : ACalls P f ts S0 R' :=
 ((h.frame F).perm hp).permR fun t S' ⟨S1', r, e⟩ => by
  obtain ⟨S'', q, r'⟩ := hr t S1' r
  exact ⟨S'', e ▸ q, r'⟩
theorem ACalls.keepIn {P : Program} {f : FuncId} {ts : List T} {S0 S1 : St} {r : T} (F : St) (h : ACalls P f ts S1 (fun t S => t = r ∧ S = S1)) (hp : S0.Perm (S1 ++ F)) : ACalls P f ts S0 (fun t S => t = r ∧ S = S0) :=
 ACalls.part F h hp (fun t S' ⟨e1, e2⟩ => ⟨S0, by rw [e2]; exact hp, e1, rfl⟩)
end Go.Proofs.YtpgbpdnmjeoeoaaGreat

namespace Go.Proofs.YtpgbpdnmjeoeoaaGreat
open Go Go.RowKit
def zf (n : Nat) : T := .v (.float .f64 n)
def FOut (o : Option Nat) (r : Nat) : Prop :=
 match o with
 | some v => r = v ∧ r < 18446744073709551616
 | none => r < 18446744073709551616 ∧ Ieee.double.order r r = none
theorem nan_order (t : Nat) : (t % 2) * 2 ^ 63 + 0x7ff0000000000000 + 1 + (t / 2) % (2 ^ 52 - 1) < 18446744073709551616 ∧ Ieee.double.order ((t % 2) * 2 ^ 63 + 0x7ff0000000000000 + 1 + (t / 2) % (2 ^ 52 - 1)) ((t % 2) * 2 ^ 63 + 0x7ff0000000000000 + 1 + (t / 2) % (2 ^ 52 - 1)) = none := by
 have h1 : t / 2 % 4503599627370495 < 4503599627370495 := Nat.mod_lt _ (by decide)
 have h2 : t % 2 < 2 := Nat.mod_lt _ (by decide)
 have e1 : (2 : Nat) ^ 52 - 1 = 4503599627370495 := by decide
 have e2 : (2 : Nat) ^ 63 = 9223372036854775808 := by decide
 rw [e1, e2]
 generalize ht : t / 2 % 4503599627370495 = q at *
 generalize hb : t % 2 = b at *
 refine ⟨by omega, ?_⟩
 unfold Ieee.Format.order
 have hr : ∃ n f, Ieee.double.read (b * 9223372036854775808 + 9218868437227405312 + 1 + q) = .nan n f := by
  unfold Ieee.Format.read
  have s1 : Ieee.double.signWeight = 9223372036854775808 := by decide
  have s2 : Ieee.double.binade = 4503599627370496 := by decide
  have s3 : Ieee.double.infRung = 9218868437227405312 := by decide
  simp only [s1, s2, s3]
  have e : (b * 9223372036854775808 + 9218868437227405312 + 1 + q) % 9223372036854775808 = 9218868437227405312 + 1 + q := by omega
  rw [e, if_neg (by omega), if_neg (by omega), if_neg (by omega)]
  exact ⟨_, _, rfl⟩
 obtain ⟨n, f, hr⟩ := hr
 rw [hr]
 rfl
theorem write64 (d : Ieee.Datum) : Ieee.double.write d < 18446744073709551616 := Ieee.double.write_lt d
theorem map_write {o : Option Ieee.Datum} {v : Nat} (h : o.map Ieee.double.write = some v) : v < 18446744073709551616 := by
 cases o with
 | none => cases h
 | some d => cases h; exact write64 d
def fopF (op : BinOp) (x y : Nat) : Option Nat :=
 match op with
 | .add => Ieee.double.add x y
 | .sub => Ieee.double.sub x y
 | .mul => Ieee.double.mul x y
 | .quo => Ieee.double.div x y
 | _ => none
theorem fop_lt {op : BinOp} {x y v : Nat} (h : fopF op x y = some v) : v < 18446744073709551616 := by
 cases op <;> first | exact map_write h | cases h
section
variable {cx : Cx} {env : Env} {S : St} {o : Oper} {g : Bool} {x y z : Operand} {ops : Array Oper} {l : List Oper} {K : Env → St → Prop} {d : Nat}
theorem exec_binOp_float {ρ : Operand → Value} {P : Program} {op : BinOp} {ty yt : TypeId} {p q : Nat} (ho : o.op = .binOp op ty x y yt) (hx : ρ x = .float .f64 p) (hy : ρ y = .float .f64 q) (w : World) :
    (execOp ρ o).run P w = ((binOp op ty (.float .f64 p) (.float .f64 q)).run P w).andThen fun v w => .ok (.value v) w := by
 have h : eqGuard op ty x y (.float .f64 p) (.float .f64 q) = pure () := by
  unfold eqGuard
  split <;> rfl
 simp only [execOp, ho, hx, hy, h, Sem.run_bind, Sem.run_pure, pure_bind]
theorem floatArith_none {op : BinOp} {p q : Nat} (hop : op = .add ∨ op = .sub ∨ op = .mul ∨ op = .quo) (hf : fopF op p q = none) : Op.floatArith op .f64 p q = (choose (.nanBits .f64 p q)).bind fun b => .pure (.float .f64 b) := by
 rcases hop with rfl | rfl | rfl | rfl
 ·have h : Ieee.double.add p q = none := hf
  unfold Op.floatArith
  show (match (FloatKind.f64.format.add p q) with | some r => _ | none => _) = _
  rw [show FloatKind.f64.format.add p q = none from h]; rfl
 ·have h : Ieee.double.sub p q = none := hf
  unfold Op.floatArith
  show (match (FloatKind.f64.format.sub p q) with | some r => _ | none => _) = _
  rw [show FloatKind.f64.format.sub p q = none from h]; rfl
 ·have h : Ieee.double.mul p q = none := hf
  unfold Op.floatArith
  show (match (FloatKind.f64.format.mul p q) with | some r => _ | none => _) = _
  rw [show FloatKind.f64.format.mul p q = none from h]; rfl
 have h : Ieee.double.div p q = none := hf
 unfold Op.floatArith
 show (match (FloatKind.f64.format.div p q) with | some r => _ | none => _) = _
 rw [show FloatKind.f64.format.div p q = none from h]; rfl
theorem AWL.fArith {op : BinOp} {ty yt : TypeId} {p q : Nat} (hop : op = .add ∨ op = .sub ∨ op = .mul ∨ op = .quo) (hg : o.guard = none) (hd : o.dst = some d) (hN : d < cx.N) (ho : o.op = .binOp op ty x y yt) (hx : Ev env true x (zf p)) (hy : Ev env true y (zf q))
    (hr : ∀ r, FOut (fopF op p q) r → AWL cx ops l K ((d, true, zf r) :: env) S) : AWL cx ops (o :: l) K env S := by
 refine AWL.eff hg hd hN fun a w hs => ?_
 have hb : (binOp op ty (.float .f64 p) (.float .f64 q)) = Op.floatArith op .f64 p q := by
  rcases hop with rfl | rfl | rfl | rfl <;> rfl
 have hrun := exec_binOp_float (P := cx.P) ho (hx.val hs rfl) (hy.val hs rfl) w
 cases hf : fopF op p q with
 | some v =>
  refine ⟨.float .f64 v, w, zf v, S, ?_, hs, .v _, hr v (by rw [hf]; exact ⟨rfl, fop_lt hf⟩)⟩
  rw [hrun, run_float_arith w op ty .f64 p q v (by rcases hop with rfl | rfl | rfl | rfl <;> exact hf)]
  rfl
 | none =>
  have hk : Keeps [] w w.drew := Keeps.drew [] w
  refine ⟨.float .f64 ((Question.nanBits .f64 p q).cut (w.tape w.drawn (.nanBits .f64 p q))), w.drew, zf _, S, ?_, hs.more hk, .v _, hr _ (by rw [hf]; exact nan_order _)⟩
  rw [hrun, hb, floatArith_none hop hf]
  rfl
theorem Yv.fEql {ty yt : TypeId} {p q : Nat} (ho : o.op = .binOp .eql ty x y yt) (hx : Ev env g x (zf p)) (hy : Ev env g y (zf q)) : Yv cx o env S g (.v (.bool (Ieee.double.order p q == some .eq))) :=
 Yv.plain fun a w hs hg w' => by rw [exec_binOp_float ho (hx.val hs hg) (hy.val hs hg)]; simp [binOp_float_cmp_eql, Sem.run_pure]; rfl
theorem Yv.fNeq {ty yt : TypeId} {p q : Nat} (ho : o.op = .binOp .neq ty x y yt) (hx : Ev env g x (zf p)) (hy : Ev env g y (zf q)) : Yv cx o env S g (.v (.bool (Ieee.double.order p q != some .eq))) :=
 Yv.plain fun a w hs hg w' => by rw [exec_binOp_float ho (hx.val hs hg) (hy.val hs hg)]; simp [binOp_float_cmp_neq, Sem.run_pure]; rfl
theorem Yv.fLss {ty yt : TypeId} {p q : Nat} (ho : o.op = .binOp .lss ty x y yt) (hx : Ev env g x (zf p)) (hy : Ev env g y (zf q)) : Yv cx o env S g (.v (.bool (Ieee.double.order p q == some .lt))) :=
 Yv.plain fun a w hs hg w' => by rw [exec_binOp_float ho (hx.val hs hg) (hy.val hs hg)]; simp [binOp_float_cmp_lss, Sem.run_pure]; rfl
theorem Yv.fLeq {ty yt : TypeId} {p q : Nat} (ho : o.op = .binOp .leq ty x y yt) (hx : Ev env g x (zf p)) (hy : Ev env g y (zf q)) : Yv cx o env S g (.v (.bool (Ieee.double.order p q == some .lt || Ieee.double.order p q == some .eq))) :=
 Yv.plain fun a w hs hg w' => by rw [exec_binOp_float ho (hx.val hs hg) (hy.val hs hg)]; simp [binOp_float_cmp_leq, Sem.run_pure]; rfl
theorem Yv.convIF {src dst : TypeId} {k : IntKind} {p : Int} (ho : o.op = .convert src dst x) (hs' : (cx.P.underlying src).isSome = true) (hd' : cx.P.underlying dst = some (.float .f64)) (hx : Ev env g x (.v (.int k p))) : Yv cx o env S g (zf (floatOfInt .f64 p)) :=
 Yv.plain fun a w hs hg w' => by
  simp only [execOp, ho, hx.val hs hg, Sem.run_bind, run_convert_int_float w' src dst k .f64 p hs' hd', Result.andThen_ok, Sem.run_pure]
theorem Yv.fromBits {f : FuncId} {fn : Func} {xf : Operand} {ats : Array TypeId} {a : Wd64} (hf : cx.P.funcs[f]? = some fn) (hn : (fn.name == "runtime.NumGoroutine") = false) (hb : fn.body.isNone = true) (h1 : Extern.findNext fn = none) (h2 : Extern.find fn = some Extern.MathFloatBits.float64frombits)
    (ho : o.op = .call { callee := .value xf, args := #[x], argTypes := ats }) (hxf : Ev env g xf (.v (.func (.func f) #[] #[]))) (hx : Ev env g x (zw a)) : Yv cx o env S g (zf a.toNat) := by
 refine Yv.extern ho hxf fun ac w hs hg w' => ?_
 have e := hx.val hs hg
 rw [run_callFunc_extern hf hn hb h1 h2]
 have : (#[] ++ #[x].map ac.eval ++ #[] : Array Value) = #[.int .u64 (a.toNat : Int)] := by simp [e]
 rw [this]
 rw [show Extern.MathFloatBits.float64frombits #[.int .u64 (a.toNat : Int)] = pure (.float .f64 a.toNat) from rfl]
 rfl
theorem Yv.toBits {f : FuncId} {fn : Func} {xf : Operand} {ats : Array TypeId} {r : Nat} (hf : cx.P.funcs[f]? = some fn) (hn : (fn.name == "runtime.NumGoroutine") = false) (hb : fn.body.isNone = true) (h1 : Extern.findNext fn = none) (h2 : Extern.find fn = some Extern.MathFloatBits.float64bits)
    (ho : o.op = .call { callee := .value xf, args := #[x], argTypes := ats }) (hxf : Ev env g xf (.v (.func (.func f) #[] #[]))) (hx : Ev env g x (zf r)) (hr : r < 18446744073709551616) : Yv cx o env S g (zw (BitVec.ofNat 64 r)) := by
 have e0 : zw (BitVec.ofNat 64 r) = .v (.int .u64 (r : Int)) := by
  unfold zw
  rw [BitVec.toNat_ofNat, Nat.mod_eq_of_lt hr]
 rw [e0]
 refine Yv.extern ho hxf fun ac w hs hg w' => ?_
 have e := hx.val hs hg
 rw [run_callFunc_extern hf hn hb h1 h2]
 have : (#[] ++ #[x].map ac.eval ++ #[] : Array Value) = #[.float .f64 r] := by simp [e]
 rw [this]
 rw [show Extern.MathFloatBits.float64bits #[.float .f64 r] = pure (.int .u64 r) from rfl]
 rfl
end
def frF (o : Option Nat) : Wd64 :=
 match o with
 | some r => if (Ieee.double.order r r != some .eq) = true then 9221120237041090560#64 else BitVec.ofNat 64 r
 | none => 9221120237041090560#64
theorem fr_nan {o : Option Nat} {r : Nat} (h : FOut o r) (hn : (Ieee.double.order r r != some .eq) = true) : frF o = 9221120237041090560#64 := by
 cases o with
 | none => rfl
 | some v =>
  obtain ⟨rfl, _⟩ := h
  rw [frF, if_pos hn]
theorem fr_num {o : Option Nat} {r : Nat} (h : FOut o r) (hn : (Ieee.double.order r r != some .eq) = false) : frF o = BitVec.ofNat 64 r := by
 cases o with
 | none =>
  rw [h.2] at hn
  cases hn
 | some v =>
  obtain ⟨rfl, _⟩ := h
  rw [frF, if_neg (by rw [hn]; decide)]
theorem FOut.lt {o : Option Nat} {r : Nat} (h : FOut o r) : r < 18446744073709551616 := by
 cases o with
 | none => exact h.1
 | some v => exact h.2
end Go.Proofs.YtpgbpdnmjeoeoaaGreat

namespace Go.Proofs.YtpgbpdnmjeoeoaaGreat
open Go Go.RowKit
abbrev Gh := Option Addr × Nat
structure FKey where
 c : Nat
 u1 : List Nat
 e1 : List Gh → Ent
 s : Nat
 u2 : List Nat
 e2 : List Gh → Ent
structure FOp where
 i : Nat
 d : Option Nat
 deps : List Nat
 us : List Nat
 t : List Gh → T
 inv : Gh → Prop
instance : Inhabited FOp := ⟨⟨0, none, [], [], fun _ => .v (.bool false), fun _ => True⟩⟩
def updG (γ : Nat → Gh) (i : Nat) (g : Gh) : Nat → Gh := fun j => if j = i then g else γ j
theorem updG_map {γ : Nat → Gh} {i : Nat} {g : Gh} : ∀ {l : List Nat}, i ∉ l → l.map (updG γ i g) = l.map γ
 | [], _ => rfl
 | a :: l, h => by
  rw [List.map_cons, List.map_cons, updG_map (fun q => h (List.mem_cons_of_mem _ q)), updG, if_neg (fun e => h (by rw [e]; exact List.mem_cons_self))]
def curK (dn : Nat → Bool) (γ : Nat → Gh) (k : FKey) : St := bif dn k.s then [k.e2 (k.u2.map γ)] else bif dn k.c then [k.e1 (k.u1.map γ)] else []
def preK (γ : Nat → Gh) (i : Nat) : List FKey → St
 | [] => []
 | k :: r => bif Nat.beq k.s i then k.e1 (k.u1.map γ) :: preK γ i r else preK γ i r
def postK (γ : Nat → Gh) (i : Nat) : List FKey → St
 | [] => []
 | k :: r => bif Nat.beq k.s i then k.e2 (k.u2.map γ) :: postK γ i r else bif Nat.beq k.c i then k.e1 (k.u1.map γ) :: postK γ i r else postK γ i r
theorem beqF {a b : Nat} (h : a ≠ b) : Nat.beq a b = false := by
 cases hb : Nat.beq a b with
 | false => rfl
 | true => exact absurd (Nat.eq_of_beq_eq_true hb) h
theorem cur_step {γ γ' : Nat → Gh} {dn dn' : Nat → Bool} {i : Nat} (hd : ∀ j, dn' j = (dn j || Nat.beq i j)) (hi : dn i = false) : ∀ (ks : List FKey), (∀ k ∈ ks, (k.s = i → dn k.c = true) ∧ (dn k.s = true → dn k.c = true) ∧ (dn k.c = true → k.u1.map γ' = k.u1.map γ) ∧ (dn k.s = true → k.u2.map γ' = k.u2.map γ)) →
    ∃ X, (ks.flatMap (curK dn γ)).Perm (preK γ i ks ++ X) ∧ (ks.flatMap (curK dn' γ')).Perm (postK γ' i ks ++ X)
 | [], _ => ⟨[], .refl _, .refl _⟩
 | k :: r, h => by
  obtain ⟨X, p1, p2⟩ := cur_step (γ := γ) (γ' := γ') hd hi r (fun q hq => h q (List.mem_cons_of_mem _ hq))
  obtain ⟨h1, h2, h3, h4⟩ := h k List.mem_cons_self
  rw [List.flatMap_cons, List.flatMap_cons, preK, postK]
  by_cases hs : k.s = i
  ·have hc := h1 hs
   have e1 : curK dn γ k = [k.e1 (k.u1.map γ)] := by unfold curK; rw [hs, hi, hc]; rfl
   have e2 : curK dn' γ' k = [k.e2 (k.u2.map γ')] := by unfold curK; rw [hd, hs, Nat.beq_refl, Bool.or_true]; rfl
   rw [e1, e2, hs, Nat.beq_refl]
   exact ⟨X, p1.cons _, p2.cons _⟩
  ·have es : dn' k.s = dn k.s := by rw [hd, beqF (fun e => hs e.symm), Bool.or_false]
   rw [beqF hs]
   by_cases hc : k.c = i
   ·have hcf : dn k.c = false := by rw [hc]; exact hi
    have hsf : dn k.s = false := by
     cases q : dn k.s with
     | false => rfl
     | true => rw [h2 q] at hcf; cases hcf
    have e1 : curK dn γ k = [] := by unfold curK; rw [hsf, hcf]; rfl
    have e2 : curK dn' γ' k = [k.e1 (k.u1.map γ')] := by unfold curK; rw [es, hsf, hd, hc, Nat.beq_refl, Bool.or_true]; rfl
    rw [e1, e2, hc, Nat.beq_refl]
    exact ⟨X, p1, p2.cons _⟩
   ·have ec : dn' k.c = dn k.c := by rw [hd, beqF (fun e => hc e.symm), Bool.or_false]
    have e2 : curK dn' γ' k = curK dn γ k := by
     unfold curK
     rw [es, ec]
     cases q : dn k.s with
     | true => exact congrArg (fun z => [k.e2 z]) (h4 q)
     | false =>
      cases q' : dn k.c with
      | true => exact congrArg (fun z => [k.e1 z]) (h3 q')
      | false => rfl
    rw [e2, beqF hc]
    exact ⟨curK dn γ k ++ X, ((p1.append_left _).trans (List.perm_append_comm_assoc _ _ _)), ((p2.append_left _).trans (List.perm_append_comm_assoc _ _ _))⟩
def dnF : List FOp → List Bool → Nat → Bool
 | f :: F, b :: M, j => (b && Nat.beq f.i j) || dnF F M j
 | _, _, _ => false
def lstF : List FOp → List Bool → Array Bool → Array Bool
 | f :: F, b :: M, L => lstF F M (bif b then L.setIfInBounds f.i true else L)
 | _, _, L => L
theorem dnF_set : ∀ {F : List FOp} {M : List Bool} {p : Nat} {j : Nat}, M.length = F.length → p < F.length → dnF F (M.set p true) j = (dnF F M j || Nat.beq (F.getD p default).i j)
 | [], _, _, _, _, hp => absurd hp (Nat.not_lt_zero _)
 | f :: F, [], _, _, h, _ => by cases h
 | f :: F, b :: M, 0, j, h, hp => by
  show ((true && Nat.beq f.i j) || dnF F M j) = (((b && Nat.beq f.i j) || dnF F M j) || Nat.beq f.i j)
  cases b <;> cases Nat.beq f.i j <;> cases dnF F M j <;> rfl
 | f :: F, b :: M, p + 1, j, h, hp => by
  show ((b && Nat.beq f.i j) || dnF F (M.set p true) j) = (((b && Nat.beq f.i j) || dnF F M j) || Nat.beq (F.getD p default).i j)
  rw [dnF_set (Nat.succ.inj h) (Nat.lt_of_succ_lt_succ hp), Bool.or_assoc]
def dclB (F : List FOp) (ks : List FKey) (M : List Bool) : Bool :=
 F.all (fun f => !dnF F M f.i || (f.deps.all (dnF F M) && f.us.all (dnF F M))) && ks.all (fun k => (!dnF F M k.c || k.u1.all (dnF F M)) && (!dnF F M k.s || (dnF F M k.c && k.u2.all (dnF F M))))
def chkAt (ops : Array Oper) (F : List FOp) (ks : List FKey) (L0 L1 : Array Bool) (M : List Bool) : Bool :=
 !dclB F ks M || (bif M.all id then (lstF F M L0).toList == L1.toList else
  let r := Region.ready .any ops (lstF F M L0)
  !r.isEmpty && r.all (fun i => (List.range F.length).any (fun p => Nat.beq (F.getD p default).i i && !dnF F M i && (F.getD p default).deps.all (dnF F M) && ks.all (fun k => !Nat.beq k.s i || dnF F M k.c) && dclB F ks (M.set p true) && ((lstF F (M.set p true) L0).toList == ((lstF F M L0).setIfInBounds i true).toList) && !M.getD p true)))
def masks : Nat → List (List Bool)
 | 0 => [[]]
 | n + 1 => (masks n).flatMap fun m => [false :: m, true :: m]
theorem mem_masks : ∀ (m : List Bool), m ∈ masks m.length
 | [] => List.mem_singleton.2 rfl
 | b :: m => by
  rw [List.length_cons, masks, List.mem_flatMap]
  exact ⟨m, mem_masks m, by cases b <;> simp⟩
def opF (F : List FOp) (j : Nat) : FOp := (F.find? (fun f => Nat.beq f.i j)).getD default
def envF (F : List FOp) (γ : Nat → Gh) : List Nat → Env
 | [] => []
 | j :: r => match (opF F j).d with
  | some d => (d, true, (opF F j).t ((opF F j).us.map γ)) :: envF F γ r
  | none => envF F γ r
def postF (ks : List FKey) (f : FOp) (γ : Nat → Gh) (env : Env) (S : St) (env' : Env) (S' : St) : Prop :=
 ∃ g, f.inv g ∧ env' = (match f.d with | some d => (d, true, f.t (f.us.map (updG γ f.i g))) :: env | none => env) ∧ S'.Perm (postK (updG γ f.i g) f.i ks ++ S)
def ObF (cx : Cx) (ops : Array Oper) (F : List FOp) (ks : List FKey) (env0 : Env) (base : St) (f : FOp) (o : Oper) : Prop :=
 ∀ γ env X, Sub (envF F γ f.deps ++ env0) env → (∀ j ∈ f.deps, (opF F j).inv (γ j)) → AWL cx ops [o] (postF ks f γ env (base ++ X)) env (preK γ f.i ks ++ (base ++ X))
def ObsF (cx : Cx) (ops : Array Oper) (F : List FOp) (ks : List FKey) (env0 : Env) (base : St) : List FOp → Prop
 | [] => True
 | f :: r => (∃ o, ops[f.i]? = some o ∧ ObF cx ops F ks env0 base f o) ∧ ObsF cx ops F ks env0 base r
section
variable {cx : Cx} {env env0 : Env} {S base : St} {ops : Array Oper} {K : Env → St → Prop} {F : List FOp} {ks : List FKey}
theorem obC {f : FOp} {o : Oper} {r : List FOp} (h : ops[f.i]? = some o) (ho : ObF cx ops F ks env0 base f o) (hr : ObsF cx ops F ks env0 base r) : ObsF cx ops F ks env0 base (f :: r) := ⟨⟨o, h, ho⟩, hr⟩
theorem ObsF.mem {f : FOp} : ∀ {l : List FOp}, ObsF cx ops F ks env0 base l → f ∈ l → ∃ o, ops[f.i]? = some o ∧ ObF cx ops F ks env0 base f o
 | [], _, h => by cases h
 | a :: l, h, hm => by
  rcases List.mem_cons.1 hm with rfl | hm
  ·exact h.1
  ·exact ObsF.mem h.2 hm
theorem get_app {A B : Env} : ∀ {A : Env} {k : Nat} {q : Bool × T}, get k (A ++ B) = some q → get k A = some q ∨ get k B = some q
 | [], _, _, h => .inr h
 | (j, c, t) :: A, k, q, h => by
  rw [List.cons_append, get_cons] at h
  rw [get_cons]
  split at h
  ·rename_i e; left; rw [if_pos e]; exact h
  ·rename_i e; rw [if_neg e]; exact get_app (A := A) h
theorem get_mem : ∀ {A : Env} {k : Nat} {c : Bool} {t : T}, get k A = some (c, t) → (k, c, t) ∈ A
 | [], _, _, _, h => by cases h
 | (j, c', t') :: A, k, c, t, h => by
  rw [get_cons] at h
  split at h
  ·rename_i e; subst e; simp only [Option.some.injEq, Prod.mk.injEq] at h; obtain ⟨rfl, rfl⟩ := h; exact List.mem_cons_self
  ·exact List.mem_cons_of_mem _ (get_mem h)
theorem Sub.app {A B : Env} (hA : ∀ k c t, (k, c, t) ∈ A → get k env = some (c, t)) (hB : Sub B env) : Sub (A ++ B) env := fun k c t h => by
 rcases get_app (B := B) (A := A) h with h | h
 ·exact hA _ _ _ (get_mem h)
 ·exact hB _ _ _ h
theorem envF_mem {γ : Nat → Gh} {k : Nat} {c : Bool} {t : T} : ∀ {l : List Nat}, (k, c, t) ∈ envF F γ l → ∃ j ∈ l, (opF F j).d = some k ∧ c = true ∧ t = (opF F j).t ((opF F j).us.map γ)
 | [], h => by cases h
 | j :: l, h => by
  rw [envF] at h
  split at h
  ·rename_i d hd
   rcases List.mem_cons.1 h with h | h
   ·simp only [Prod.mk.injEq] at h
    obtain ⟨rfl, rfl, rfl⟩ := h
    exact ⟨j, List.mem_cons_self, hd, rfl, rfl⟩
   ·obtain ⟨i, h1, h2⟩ := envF_mem h
    exact ⟨i, List.mem_cons_of_mem _ h1, h2⟩
  ·obtain ⟨i, h1, h2⟩ := envF_mem h
   exact ⟨i, List.mem_cons_of_mem _ h1, h2⟩
theorem dnF_mem {j : Nat} : ∀ {F : List FOp} {M : List Bool}, dnF F M j = true → ∃ f ∈ F, f.i = j
 | [], _, h => by cases h
 | f :: F, [], h => by cases h
 | f :: F, b :: M, h => by
  rw [dnF, Bool.or_eq_true, Bool.and_eq_true] at h
  rcases h with h | h
  ·exact ⟨f, List.mem_cons_self, Nat.eq_of_beq_eq_true h.2⟩
  ·obtain ⟨q, h1, h2⟩ := dnF_mem h
   exact ⟨q, List.mem_cons_of_mem _ h1, h2⟩
theorem opF_spec {j : Nat} : ∀ {F : List FOp}, (∃ f ∈ F, f.i = j) → opF F j ∈ F ∧ (opF F j).i = j
 | [], h => by obtain ⟨f, h, _⟩ := h; cases h
 | f :: F, h => by
  unfold opF
  rw [List.find?_cons]
  by_cases e : f.i = j
  ·rw [e, Nat.beq_refl]
   exact ⟨List.mem_cons_self, e⟩
  ·rw [beqF e]
   obtain ⟨q, h1, h2⟩ := h
   rcases List.mem_cons.1 h1 with rfl | h1
   ·exact absurd h2 e
   ·obtain ⟨a, b⟩ := opF_spec ⟨q, h1, h2⟩
    exact ⟨List.mem_cons_of_mem _ a, b⟩
structure InvF (F : List FOp) (ks : List FKey) (env0 : Env) (base : St) (M : List Bool) (env : Env) (S : St) : Prop where
 out : ∃ γ : Nat → Gh, Sub env0 env ∧ (∀ f ∈ F, dnF F M f.i = true → f.inv (γ f.i) ∧ ∀ d, f.d = some d → get d env = some (true, f.t (f.us.map γ))) ∧ S.Perm (base ++ ks.flatMap (curK (dnF F M) γ))
theorem getD_at {l : List FOp} {p : Nat} (h : p < l.length) : l.getD p default = l[p] := by rw [List.getD_eq_getElem?_getD, List.getElem?_eq_getElem h]; rfl
theorem getD_inF {l : List FOp} {p : Nat} (h : p < l.length) : l.getD p default ∈ l := by rw [getD_at h]; exact List.getElem_mem h
theorem cnt_false : ∀ {F : List FOp}, (F.map fun _ => false).count false = F.length
 | [] => rfl
 | f :: F => by rw [List.map_cons, List.count_cons_self, cnt_false, List.length_cons]
theorem get_other {k d : Nat} {q : Bool × T} {c : Bool} {t : T} (hk : k ≠ d) (h : get k env = some q) : get k ((d, c, t) :: env) = some q := by rw [get_cons, if_neg hk]; exact h
theorem cnt_all : ∀ {M : List Bool}, M.count false = 0 → M.all id = true
 | [], _ => rfl
 | true :: M, h => by
  rw [List.all_cons]
  simpa using cnt_all (M := M) (by simpa using h)
 | false :: M, h => by simp at h
theorem cnt_some : ∀ {M : List Bool}, M.count false ≠ 0 → M.all id = false
 | [], h => absurd rfl h
 | true :: M, h => by
  rw [List.all_cons]
  simpa using cnt_some (M := M) (by simpa using h)
 | false :: M, _ => rfl
theorem cnt_set : ∀ {M : List Bool} {p n : Nat}, M.count false = n + 1 → M.getD p true = false → (M.set p true).count false = n
 | [], _, _, h, _ => by simp at h
 | b :: M, 0, n, h, hp => by
  obtain rfl : b = false := hp
  rw [List.set_cons_zero]
  simpa using h
 | b :: M, p + 1, n, h, hp => by
  rw [List.set_cons_succ]
  have hp' : M.getD p true = false := hp
  cases b with
  | false =>
   rw [List.count_cons_self] at h ⊢
   cases n with
   | zero =>
    have h0 : M.count false = 0 := by omega
    exfalso
    have : ∀ {M : List Bool} {p : Nat}, M.count false = 0 → M.getD p true = false → False := by
     intro M
     induction M with
     | nil => intro p _ h2; simp at h2
     | cons a M ih =>
      intro p h1 h2
      cases a with
      | false => simp at h1
      | true =>
       cases p with
       | zero => cases h2
       | succ p => exact ih (by simpa using h1) h2
    exact this h0 hp'
   | succ n =>
    have := cnt_set (n := n) (M := M) (by omega) hp'
    omega
  | true =>
   rw [List.count_cons_of_ne (by decide)] at h ⊢
   exact cnt_set h hp'
theorem tells_app {l : List (Nat × Nat × Value)} {S' : St} (h : TellsC S l) (hs : ∀ e ∈ S, e ∈ S') : TellsC S' l := fun q hq => (h q hq).imp fun e he => ⟨hs e he.1, he.2⟩
theorem AWH.free_ {l : List (Nat × Nat × Value)} {L0 L1 : Array Bool} {fuel' : Nat} (hdd : ∀ f ∈ F, ∀ g ∈ F, ∀ d, f.d = some d → g.d = some d → f.i = g.i) (hii : ∀ f ∈ F, ∀ g ∈ F, f.i = g.i → f = g) (he0 : ∀ f ∈ F, ∀ d, f.d = some d → get d env0 = none)
    (hchk : ∀ M : List Bool, M.length = F.length → chkAt ops F ks L0 L1 M = true) (hT : TellsC base l) (hob : ObsF cx ops F ks env0 base F)
    (hend : ∀ γ, (∀ f ∈ F, f.inv (γ f.i)) → ∀ env S, Sub env0 env → (∀ f ∈ F, ∀ d, f.d = some d → get d env = some (true, f.t (f.us.map γ))) → S.Perm (base ++ ks.flatMap (curK (dnF F (F.map fun _ => true)) γ)) → AWH cx ops (HeldCs l) fuel' L1 K env S) :
    ∀ n (M : List Bool) env S, M.length = F.length → M.count false = n → dclB F ks M = true → InvF F ks env0 base M env S → AWH cx ops (HeldCs l) (fuel' + n) (lstF F M L0) K env S
 | 0, M, env, S, hl, hc, hdc, hin => by
  obtain ⟨γ, h1, h2, h3⟩ := hin.out
  have hall := cnt_all hc
  have hck := hchk M hl
  unfold chkAt at hck
  rw [hdc, hall] at hck
  have e : lstF F M L0 = L1 := by
   have : (lstF F M L0).toList = L1.toList := by simpa using hck
   exact Array.ext' this
  rw [e]
  have hM : M = F.map fun _ => true := by
   apply List.ext_getElem (by simpa using hl)
   intro j a b
   rw [List.getElem_map]
   exact List.all_eq_true.1 hall _ (List.getElem_mem a)
  have hdn : ∀ {F : List FOp} {f : FOp}, f ∈ F → dnF F (F.map fun _ => true) f.i = true := by
   intro F
   induction F with
   | nil => intro f h; cases h
   | cons a F ih =>
    intro f h
    rw [List.map_cons, dnF]
    rcases List.mem_cons.1 h with rfl | h
    ·rw [Nat.beq_refl]; rfl
    ·rw [ih h, Bool.or_true]
  refine hend γ (fun f hf => (h2 f hf (by rw [hM]; exact hdn hf)).1) env S h1 (fun f hf => (h2 f hf (by rw [hM]; exact hdn hf)).2) ?_
  rw [← hM]; exact h3
 | n + 1, M, env, S, hl, hc, hdc, hin => by
  obtain ⟨γ, h1, h2, h3⟩ := hin.out
  have hall := cnt_some (M := M) (by omega)
  have hck := hchk M hl
  unfold chkAt at hck
  rw [hdc, hall] at hck
  simp only [Bool.not_true, Bool.false_or, cond_false, Bool.and_eq_true, List.all_eq_true, List.any_eq_true, List.mem_range] at hck
  obtain ⟨hne, hr⟩ := hck
  intro a w hs hd
  refine wpAnyH_all rfl (by intro e; rw [e] at hne; cases hne) fun i hi => ?_
  obtain ⟨p, hp, ⟨⟨⟨⟨⟨⟨q1, q2⟩, q3⟩, q4⟩, q5⟩, q6⟩, q7⟩⟩ := hr i hi
  have hfm : F.getD p default ∈ F := getD_inF hp
  obtain rfl : (F.getD p default).i = i := Nat.eq_of_beq_eq_true q1
  generalize hf : F.getD p default = f at *
  have hdi : dnF F M f.i = false := by simpa using q2
  obtain ⟨o, ho, hO⟩ := hob.mem hfm
  have hdcl := hdc
  unfold dclB at hdcl
  simp only [Bool.and_eq_true, List.all_eq_true, Bool.or_eq_true, Bool.not_eq_true'] at hdcl
  obtain ⟨dF, dK⟩ := hdcl
  have hdep : ∀ j ∈ f.deps, dnF F M j = true := q3
  have hsub : Sub (envF F γ f.deps ++ env0) env := Sub.app (fun k c t hm => by
   obtain ⟨j, hj, e1, e2, e3⟩ := envF_mem hm
   obtain ⟨m1, m2⟩ := opF_spec (dnF_mem (hdep j hj))
   subst e2; subst e3
   exact (h2 _ m1 (by rw [m2]; exact hdep j hj)).2 k e1) h1
  have hinv : ∀ j ∈ f.deps, (opF F j).inv (γ j) := fun j hj => by
   obtain ⟨m1, m2⟩ := opF_spec (dnF_mem (hdep j hj))
   have := (h2 _ m1 (by rw [m2]; exact hdep j hj)).1
   rw [m2] at this; exact this
  have hdd' : ∀ j, dnF F (M.set p true) j = (dnF F M j || Nat.beq f.i j) := fun j => by rw [dnF_set hl hp, hf]
  have hnot : ∀ {us : List Nat}, (∀ j ∈ us, dnF F M j = true) → f.i ∉ us := fun h hm => by rw [h _ hm] at hdi; cases hdi
  have hkey : ∀ g, ∀ k ∈ ks, (k.s = f.i → dnF F M k.c = true) ∧ (dnF F M k.s = true → dnF F M k.c = true) ∧ (dnF F M k.c = true → k.u1.map (updG γ f.i g) = k.u1.map γ) ∧ (dnF F M k.s = true → k.u2.map (updG γ f.i g) = k.u2.map γ) := fun g k hk => by
   obtain ⟨d1, d2⟩ := dK k hk
   refine ⟨fun e => ?_, fun e => ?_, fun e => ?_, fun e => ?_⟩
   ·have := q4 k hk
    rw [e, Nat.beq_refl] at this
    simpa using this
   ·rcases d2 with d2 | d2
    ·rw [e] at d2; cases d2
    ·exact d2.1
   ·rcases d1 with d1 | d1
    ·rw [e] at d1; cases d1
    ·exact updG_map (hnot d1)
   ·rcases d2 with d2 | d2
    ·rw [e] at d2; cases d2
    ·exact updG_map (hnot d2.2)
  obtain ⟨X0, p1, _⟩ := cur_step (γ := γ) (γ' := γ) hdd' hdi ks (fun k hk => by
   obtain ⟨a1, a2, _, _⟩ := hkey (γ f.i) k hk
   exact ⟨a1, a2, fun _ => rfl, fun _ => rfl⟩)
  have hSp : (preK γ f.i ks ++ (base ++ X0)).Perm S := ((List.perm_append_comm_assoc _ _ _).trans ((p1.symm.append_left base).trans h3.symm))
  have hA := AWL.perm hSp (hO γ env X0 hsub hinv)
  refine wpOp_of_AWL ho hA (fun env' S' a' w' hq hs' => ?_) hs
  obtain ⟨g, hg, henv, hS'⟩ := hq
  obtain ⟨X1, r1, r2⟩ := cur_step (γ := γ) (γ' := updG γ f.i g) hdd' hdi ks (hkey g)
  have hX : X0.Perm X1 := (List.perm_append_left_iff _).1 (p1.symm.trans r1)
  have hT' : Tells cx (HeldCs l) env' S' := tells_cs (tells_app hT (fun e he => hS'.mem_iff.2 (List.mem_append.2 (.inr (List.mem_append.2 (.inl he))))))
  refine ⟨hT' a' w' hs', ?_⟩
  have e6 : (lstF F M L0).setIfInBounds f.i true = lstF F (M.set p true) L0 := Array.ext' (by simpa using (eq_of_beq q6).symm)
  rw [e6]
  refine AWH.free_ hdd hii he0 hchk hT hob hend n (M.set p true) env' S' (by rw [List.length_set]; exact hl) (cnt_set hc (by simpa using q7)) q5 ⟨updG γ f.i g, ?_, ?_, ?_⟩ a' w' hs' (hT' a' w' hs')
  ·cases hfd : f.d with
   | none => rw [hfd] at henv; rw [henv]; exact h1
   | some d =>
    rw [hfd] at henv
    rw [henv]
    intro k c t hk
    refine get_other (fun e => ?_) (h1 k c t hk)
    subst e
    rw [he0 f hfm _ hfd] at hk
    cases hk
  ·intro f2 hf2 hdn
   rw [hdd', Bool.or_eq_true] at hdn
   by_cases hfi : f2.i = f.i
   ·obtain rfl := hii _ hf2 _ hfm hfi
    refine ⟨by rw [updG, if_pos rfl]; exact hg, fun d hd => ?_⟩
    rw [hd] at henv
    rw [henv, get_cons, if_pos rfl]
   ·have hold : dnF F M f2.i = true := by
     rcases hdn with h | h
     ·exact h
     ·exact absurd (Nat.eq_of_beq_eq_true h).symm hfi
    obtain ⟨i1, i2⟩ := h2 f2 hf2 hold
    refine ⟨by rw [updG, if_neg hfi]; exact i1, fun d hd => ?_⟩
    have hus : f2.us.map (updG γ f.i g) = f2.us.map γ := by
     rcases dF f2 hf2 with h | h
     ·rw [hold] at h; cases h
     ·exact updG_map (hnot h.2)
    rw [hus]
    cases hfd : f.d with
    | none => rw [hfd] at henv; rw [henv]; exact i2 d hd
    | some d' =>
     rw [hfd] at henv
     rw [henv]
     refine get_other (fun e => ?_) (i2 d hd)
     subst e
     exact hfi (hdd _ hf2 _ hfm _ hd hfd)
  ·exact hS'.trans ((List.perm_append_comm_assoc _ _ _).trans (((hX.append_left _).trans r2.symm).append_left base))
def stB (F : List FOp) (ks : List FKey) (env0 : Env) (L0 : Array Bool) : Bool :=
 (List.range F.length).all (fun p => (List.range F.length).all fun q => Nat.beq p q || (!Nat.beq (F.getD p default).i (F.getD q default).i && (match (F.getD p default).d, (F.getD q default).d with | some a, some b => !Nat.beq a b | _, _ => true))) &&
 F.all (fun f => match f.d with | some d => env0.all (fun e => !Nat.beq e.1 d) | none => true) && dclB F ks (F.map fun _ => false) && ((lstF F (F.map fun _ => false) L0).toList == L0.toList)
def finK (F : List FOp) (ks : List FKey) (γ : Nat → Gh) : St := ks.flatMap (curK (dnF F (F.map fun _ => true)) γ)
theorem get_none {d : Nat} : ∀ {A : Env}, (A.all fun e => !Nat.beq e.1 d) = true → get d A = none
 | [], _ => rfl
 | (j, c, t) :: A, h => by
  rw [List.all_cons, Bool.and_eq_true] at h
  rw [get_cons, if_neg (fun e => by subst e; simp at h)]
  exact get_none h.2
theorem dnF_none {j : Nat} : ∀ {F : List FOp}, dnF F (F.map fun _ => false) j = false
 | [] => rfl
 | f :: F => by rw [List.map_cons, dnF, dnF_none]; rfl
theorem AWH.free {l : List (Nat × Nat × Value)} {L0 : Array Bool} {fuel : Nat} {ι : Type} (F : List FOp) (ks : List FKey) (fuel' : Nat) (L1 : Array Bool) (E : ι → Env) (H : ι → St) (inv : ι → Prop) (hfu : fuel = fuel' + F.length) (hst : stB F ks env0 L0 = true) (hck : (masks F.length).all (chkAt ops F ks L0 L1) = true) (hT : TellsC base l) (hob : ObsF cx ops F ks env0 base F)
    (h1 : ∀ γ, (∀ f ∈ F, f.inv (γ f.i)) → ∃ y, inv y ∧ Sub (E y) (envF F γ (F.map (·.i)) ++ env0) ∧ H y = finK F ks γ ++ base) (h2 : ∀ y, inv y → AWH cx ops (HeldCs l) fuel' L1 K (E y) (H y)) : AWH cx ops (HeldCs l) fuel L0 K env0 base := by
 subst hfu
 unfold stB at hst
 simp only [Bool.and_eq_true] at hst
 obtain ⟨⟨⟨s1, s2⟩, s3⟩, s4⟩ := hst
 have hpq : ∀ f ∈ F, ∀ g ∈ F, f = g ∨ (f.i ≠ g.i ∧ ∀ d, f.d = some d → g.d = some d → False) := fun f hf g hg => by
  obtain ⟨p, hp, rfl⟩ := List.getElem_of_mem hf
  obtain ⟨q, hq, rfl⟩ := List.getElem_of_mem hg
  have h := List.all_eq_true.1 (List.all_eq_true.1 s1 p (List.mem_range.2 hp)) q (List.mem_range.2 hq)
  rw [getD_at hp, getD_at hq, Bool.or_eq_true] at h
  rcases h with h | h
  ·have := Nat.eq_of_beq_eq_true h
   subst this
   exact .inl rfl
  ·rw [Bool.and_eq_true] at h
   refine .inr ⟨fun e => (by rw [e, Nat.beq_refl] at h; cases h.1), fun d e1 e2 => ?_⟩
   have h3 := h.2
   rw [e1, e2] at h3
   simp at h3
 have hs := AWH.free_ (K := K) (l := l) (fuel' := fuel') (L0 := L0) (L1 := L1) (fun f hf g hg d e1 e2 => by
     rcases hpq f hf g hg with h | h
     ·rw [h]
     ·exact (h.2 d e1 e2).elim) (fun f hf g hg e => (hpq f hf g hg).elim id (fun h => absurd e h.1))
  (fun f hf d hd => by
   have := List.all_eq_true.1 s2 f hf
   rw [hd] at this
   exact get_none this) (fun M hM => List.all_eq_true.1 hck M (by rw [← hM]; exact mem_masks M)) hT hob
  (fun γ hi env S g1 g2 g3 => by
   obtain ⟨y, y1, y2, y3⟩ := h1 γ hi
   have hsub : Sub (E y) env := fun k c t hk => Sub.app (A := envF F γ (F.map (·.i))) (B := env0) (fun k c t hm => by
    obtain ⟨j, hj, e1, e2, e3⟩ := envF_mem hm
    obtain ⟨f, hf, rfl⟩ := List.mem_map.1 hj
    obtain ⟨m1, m2⟩ := opF_spec (F := F) ⟨f, hf, rfl⟩
    subst e2; subst e3
    exact g2 _ m1 k e1) g1 k c t (y2 k c t hk)
   intro a w hs hd
   refine h2 y y1 a w ((hs.weaken hsub).perm ?_) hd
   rw [y3]
   exact List.perm_append_comm.trans g3.symm) F.length (F.map fun _ => false) env0 base (by simp) cnt_false s3
  ⟨fun _ => default, Sub.refl, fun f hf h => (by rw [dnF_none] at h; cases h), by
   have : ks.flatMap (curK (dnF F (F.map fun _ => false)) fun _ => default) = [] := by
    rw [List.flatMap_eq_nil_iff]
    intro k _
    unfold curK
    rw [dnF_none, dnF_none]
    rfl
   rw [this, List.append_nil]⟩
 have e : lstF F (F.map fun _ => false) L0 = L0 := Array.ext' (by simpa using s4)
 rw [e] at hs
 exact hs
theorem frA {f : FOp} {γ : Nat → Gh} {env' : Env} {S' : St} (g : Gh) (hi : f.inv g) (he : env' = (match f.d with | some d => (d, true, f.t (f.us.map (updG γ f.i g))) :: env | none => env)) (hS : S'.Perm (postK (updG γ f.i g) f.i ks ++ S)) : postF ks f γ env S env' S' := ⟨g, hi, he, hS⟩
theorem appS {α : Type} {l r : List α} {i : Nat} {a : α} (h : l[i]? = some a) : (l ++ r)[i]? = some a := by
 rw [List.getElem?_append_left (List.getElem?_eq_some_iff.1 h).1]; exact h
theorem Es {env' : Env} {g : Bool} {x : Operand} {t : T} (h : Sub env' env) (hx : Ev env' g x t) : Ev env g x t := by
 obtain ⟨c, h1, h2, h3⟩ := hx
 refine ⟨c, ?_, h2, h3⟩
 cases x with
 | tmp k => exact h k c t h1
 | _ => exact h1
end
end Go.Proofs.YtpgbpdnmjeoeoaaGreat

namespace Go.Proofs.YtpgbpdnmjeoeoaaGreat
open Go Go.RowKit
section
variable {cx : Cx} {env : Env} {S : St} {code : Code} {Q : Exit → Env → St → Prop}
theorem AW.shrink {n c k : Nat} {A : Option Addr} {e : TypeId} {cs : List T} (i m : Nat) (hi : S[i]? = some (.row A n c e k cs)) (hm : m ≤ n) (h : AW cx code Q env (S.set i (.row A m c e k (cs.take (m * k))))) : AW cx code Q env S := fun a w hs => by
 obtain ⟨us, ⟨r1, r2, r3, r4⟩, hV⟩ := hs.row hi
 have hmk : m * k ≤ n * k := Nat.mul_le_mul_right k hm
 refine h a w (hs.setEnt hi rfl (fun _ _ _ => rfl) rfl rfl rfl rfl ⟨us.take (m * k), ⟨by rw [List.length_take, r1]; omega, r2, by omega, ?_⟩, hV.take _⟩)
 rcases r4 with ⟨h1, h2, h3⟩ | ⟨g, cur, fr, h1, h2, h3, h4, h5⟩
 ·exact .inl ⟨h1, by omega, h3⟩
 ·refine .inr ⟨g, cur, fr, h1, h2, h3, h4, ?_⟩
  rw [← h5, List.take_take, Nat.min_eq_left hmk]
end
end Go.Proofs.YtpgbpdnmjeoeoaaGreat

namespace Go.Proofs.YtpgbpdnmjeoeoaaGreat
open Go Go.RowKit
def nilT : T := .v (.slice none 0 0)
theorem nil_le (k : Nat) : Le nilT (.sl k []) := nil_sl (by unfold maxLen; omega)
/-! ### a process -/
structure PS where
 prog : Prog
 lab : T
 heap : Wd64
 strict : Bool
 w : T
 pages : T
 ent : Bool
 st : Int
 ans : Wd64
 code : Int
 steps : Int
def psC (x : PS) (cl : T) : List T := [.sl 5 (x.prog.funs.flatMap fnCells), .sl 1 (x.prog.data.map u8), zi x.prog.zero, x.lab, zw x.heap, bv x.strict, x.w, x.pages, cl, bv x.ent, zi x.st, zw x.ans, zi x.code, zi x.steps]
structure Fr where
 f : Int
 at_ : Int
 nr : Nat
 ns : Nat
 r : List Wd64
 slot : List Wd64
 set : List Bool
 there : List Bool
 d : Int
structure FA where
 r : Option Addr
 s : Option Addr
 t : Option Addr
 h : Option Addr
def rJ (args : List Wd64) (R j : Nat) : List Wd64 := args.take j ++ List.replicate (R - j) 0#64
def sJ (R j : Nat) : List Bool := List.replicate j true ++ List.replicate (R - j) false
def openFr (f : Fn) (fi : Int) (args : List Wd64) (d : Int) : Fr :=
 ⟨fi, 0, f.regs.toNat, f.slots.toNat, rJ args f.regs.toNat args.length, List.replicate f.slots.toNat 0#64, sJ f.regs.toNat args.length, List.replicate f.slots.toNat false, d⟩
theorem mk_rep (n : Nat) (u : Value) : (List.replicate n ([u].map T.v)).flatten = List.replicate n (T.v u) := by
 induction n with
 | zero => rfl
 | succ n ih => rw [List.replicate_succ, List.flatten_cons, ih]; rfl
theorem zero_r (args : List Wd64) (R : Nat) : (List.replicate R ([Value.int .u64 0].map T.v)).flatten = (rJ args R 0).map zw := by
 rw [mk_rep]; simp [rJ, zw]
theorem zero_s (R : Nat) : (List.replicate R ([Value.bool false].map T.v)).flatten = (sJ R 0).map bv := by
 rw [mk_rep]; simp [sJ, bv]
theorem zero_b (R : Nat) : (List.replicate R ([Value.bool false].map T.v)).flatten = (List.replicate R false).map bv := by
 rw [mk_rep]; simp [bv]
theorem rj_len {args : List Wd64} {R j : Nat} (h : j ≤ args.length) (hR : args.length ≤ R) : (rJ args R j).length = R := by
 unfold rJ; rw [List.length_append, List.length_take, List.length_replicate]; omega
theorem sj_len {R j : Nat} (h : j ≤ R) : (sJ R j).length = R := by
 unfold sJ; rw [List.length_append, List.length_replicate, List.length_replicate]; omega
theorem rj_succ {args : List Wd64} {R j : Nat} (h : j < args.length) (hR : args.length ≤ R) : ((rJ args R j).map zw).set (j * 1) (zw (args.getD j 0#64)) = (rJ args R (j + 1)).map zw := by
 rw [Nat.mul_one, ← List.map_set]
 congr 1
 unfold rJ
 rw [show args.take (j + 1) = args.take j ++ [args.getD j 0#64] from take_gd h, show R - j = (R - (j + 1)) + 1 by omega, List.replicate_succ, List.set_append_right _ _ (by rw [List.length_take]; omega), List.length_take, Nat.min_eq_left (Nat.le_of_lt h), Nat.sub_self, List.append_assoc]
 rfl
theorem sj_succ {R j : Nat} (hR : j < R) : ((sJ R j).map bv).set (j * 1) (bv true) = (sJ R (j + 1)).map bv := by
 rw [Nat.mul_one, ← List.map_set]
 congr 1
 unfold sJ
 rw [show R - j = (R - (j + 1)) + 1 by omega, List.replicate_succ, List.set_append_right _ _ (by rw [List.length_replicate]; exact Nat.le_refl _), List.length_replicate, Nat.sub_self, List.replicate_succ', List.append_assoc]
 rfl
theorem bool_at {l : List Bool} {j : Nat} (h : j < l.length) : (l.map bv)[j * 1 + 0]? = some (bv (l.getD j default)) := by
 rw [Nat.mul_one, Nat.add_zero, List.getElem?_map, List.getElem?_eq_getElem h, gd h]; rfl
theorem len_zw {l : List Wd64} : (l.map zw).length = l.length * 1 := by simp
end Go.Proofs.YtpgbpdnmjeoeoaaGreat

namespace Go.Proofs.YtpgbpdnmjeoeoaaGreat
open Go Go.RowKit
def wI (z : Int) : Wd64 := BitVec.ofInt 64 z
def sI (a : Wd64) : Int := IntKind.i64.wrap (a.toNat : Int)
theorem wI_nat (z : Int) : ((wI z).toNat : Int) = IntKind.u64.wrap z := by
 rw [wrap_u64, wI, BitVec.toNat_ofInt]
 omega
section
variable {cx : Cx} {env : Env} {S : St} {o : Oper} {g : Bool} {x y : Operand}
theorem Yv.convW {src dst : TypeId} {k : IntKind} {p : Int} {d : TypeDesc} (ho : o.op = .convert src dst x) (hs : cx.P.underlying src = some d) (hd : kindOf cx.P dst = some .u64) (hx : Ev env g x (.v (.int k p))) : Yv cx o env S g (zw (wI p)) := by
 have h := Yv.conv (cx := cx) (S := S) ho hs hd hx
 rw [← wI_nat] at h; exact h
theorem Yv.quoW {ty yt : TypeId} {a b : Wd64} (ho : o.op = .binOp .quo ty x y yt) (hx : Ev env g x (zw a)) (hy : Ev env g y (zw b)) (hb : b ≠ 0#64) : Yv cx o env S g (zw (a / b)) := by
 have hb' : (b.toNat : Int) ≠ 0 := fun h => hb (BitVec.eq_of_toNat_eq (by simpa using h))
 have h := Yv.quo (cx := cx) (S := S) ho hx hy (fun _ => hb')
 rw [show (a.toNat : Int).tdiv (b.toNat : Int) = ((a / b).toNat : Int) by rw [BitVec.toNat_udiv]; exact Int.natCast_ediv _ _ ▸ (Int.tdiv_eq_ediv_of_nonneg (Int.natCast_nonneg _)), wrap_nat] at h
 exact h
theorem Yv.remW {ty yt : TypeId} {a b : Wd64} (ho : o.op = .binOp .rem ty x y yt) (hx : Ev env g x (zw a)) (hy : Ev env g y (zw b)) (hb : b ≠ 0#64) : Yv cx o env S g (zw (a % b)) := by
 have hb' : (b.toNat : Int) ≠ 0 := fun h => hb (BitVec.eq_of_toNat_eq (by simpa using h))
 have h := Yv.rem (cx := cx) (S := S) ho hx hy (fun _ => hb')
 rw [show (a.toNat : Int).tmod (b.toNat : Int) = ((a % b).toNat : Int) by rw [BitVec.toNat_umod]; exact Int.natCast_emod _ _ ▸ (Int.tmod_eq_emod_of_nonneg (Int.natCast_nonneg _))] at h
 exact h
end
def hiF (x y : Wd64) : Wd64 :=
 (x >>> 32) * (y >>> 32) + (((x >>> 32) * (y &&& 4294967295#64) + (((x &&& 4294967295#64) * (y &&& 4294967295#64)) >>> 32)) >>> 32) +
  ((((x >>> 32) * (y &&& 4294967295#64) + (((x &&& 4294967295#64) * (y &&& 4294967295#64)) >>> 32)) &&& 4294967295#64) + (x &&& 4294967295#64) * (y >>> 32)) >>> 32
def holdsF (c : Int) (a b : Wd64) : Bool :=
 if c = 1 then decide (a = b) else if c = 2 then !decide (a = b) else if c = 3 then decide (sI a < sI b) else if c = 4 then decide (sI a ≤ sI b) else if c = 5 then decide (a < b) else decide (a ≤ b)
def truthF (b : Bool) : Wd64 := if b = true then 1#64 else 0#64
def rA (x : Fr) (r : Int) : Wd64 := x.r.getD r.toNat 0#64
def valueF (R : Int → Wd64 → Wd64 → Wd64) (heap : Wd64) (x : Fr) (i : Ins) : Wd64 × Bool :=
 if i.kind = 1 then (wI i.imm, true)
 else if i.kind = 27 then (268435456#64 + wI i.imm, true)
 else if i.kind = 28 then (4194304#64 + 16#64 * wI i.f, true)
 else if i.kind = 29 then (heap, true)
 else if i.kind = 31 then (x.slot.getD i.imm.toNat 0#64, x.there.getD i.imm.toNat default)
 else if i.kind = 2 then (rA x i.a, true)
 else if i.kind = 3 then (rA x i.a + rA x i.b, true)
 else if i.kind = 4 then (rA x i.a - rA x i.b, true)
 else if i.kind = 5 then (rA x i.a * rA x i.b, true)
 else if i.kind = 6 then (hiF (rA x i.a) (rA x i.b), true)
 else if i.kind = 9 then (rA x i.a &&& rA x i.b, true)
 else if i.kind = 10 then (rA x i.a ||| rA x i.b, true)
 else if i.kind = 11 then (rA x i.a ^^^ rA x i.b, true)
 else if i.kind = 12 then (rA x i.a <<< (rA x i.b &&& 63#64).toNat, true)
 else if i.kind = 13 then (rA x i.a >>> (rA x i.b &&& 63#64).toNat, true)
 else if i.kind = 14 then (wI (shrOf .i64 (sI (rA x i.a)) ((rA x i.b &&& 63#64).toNat : Int)), true)
 else if i.kind = 15 then (truthF (holdsF i.cond (rA x i.a) (rA x i.b)), true)
 else if i.kind = 16 then (R i.real (rA x i.a) (rA x i.b), true)
 else if rA x i.b = 0#64 then (0#64, false)
 else if i.kind = 7 then (rA x i.a / rA x i.b, true)
 else (rA x i.a % rA x i.b, true)
theorem lt63 (b : Wd64) : (b &&& 63#64).toNat < 64 := by
 rw [BitVec.toNat_and]
 exact Nat.lt_of_le_of_lt Nat.and_le_right (by decide)
def valK (k : Int) : Prop := 1 ≤ k ∧ k ≤ 16 ∨ k = 27 ∨ k = 28 ∨ k = 29 ∨ k = 31
theorem has_ab {k : Int} (h : 3 ≤ k) (h' : k ≤ 16) : (hasF k).a = true ∧ (hasF k).b = true := by
 unfold hasF ofF
 rw [if_neg (by omega), if_neg (by omega)]
 by_cases h15 : k = 15
 ·rw [if_neg (by omega), if_pos h15]; exact ⟨rfl, rfl⟩
 rw [if_pos (by omega)]; exact ⟨rfl, rfl⟩
structure FrOk (x : Fr) : Prop where
 r : x.r.length = x.nr
 s : x.slot.length = x.ns
 t : x.set.length = x.nr
 h : x.there.length = x.ns
section
variable {pre : List T} {x : Fr} {a : FA}
end
def okS (set : List Bool) (l : List Int) : Bool := l.all fun r => set.getD r.toNat default
theorem okS_one (set : List Bool) (r : Int) : okS set [r] = set.getD r.toNat default := by simp [okS]
theorem okS_app (set : List Bool) (l l' : List Int) : okS set (l ++ l') = (okS set l && okS set l') := by simp [okS]
def setD (x : Fr) (d : Int) (v : Wd64) : Fr := { x with r := x.r.set d.toNat v, set := x.set.set d.toNat true }
theorem setD_ok {x : Fr} (h : FrOk x) (d : Int) (v : Wd64) : FrOk (setD x d v) := ⟨List.length_set.trans h.r, h.s, List.length_set.trans h.t, h.h⟩
def backP (ps : PS) (v : Wd64) : PS := if ps.ent = true then { ps with st := 3, ans := v } else { ps with st := 1, code := IntKind.i64.wrap ((v &&& 255#64).toNat : Int) }
def putF (x : Fr) (i : Ins) : Fr := { x with slot := x.slot.set i.imm.toNat (rA x i.a), there := x.there.set i.imm.toNat true }
theorem putF_ok {x : Fr} (h : FrOk x) (i : Ins) : FrOk (putF x i) := ⟨h.r, List.length_set.trans h.s, h.t, List.length_set.trans h.h⟩
def goF (x : Fr) : Fr := { x with at_ := x.at_ + 1 }
theorem goF_ok {x : Fr} (h : FrOk x) : FrOk (goF x) := ⟨h.r, h.s, h.t, h.h⟩
def stepA (R : Int → Wd64 → Wd64 → Wd64) (heap : Wd64) (x : Fr) (i : Ins) : Option Fr :=
 if okS x.set (readsF i) = false then none
 else if i.kind = 32 then some (goF (putF x i))
 else if (valueF R heap x i).2 = true then some (goF (setD x i.d (valueF R heap x i).1))
 else none
theorem has_d {k : Int} (h : valK k) : (hasF k).d = true := by
 unfold valK at h
 unfold hasF ofF
 by_cases h0 : ((k = 1 ∨ k = 27) ∨ k = 29) ∨ k = 31
 ·rw [if_pos h0]; rfl
 rw [if_neg h0]
 by_cases h2 : k = 2
 ·rw [if_pos h2]; rfl
 rw [if_neg h2]
 by_cases h3 : (3 ≤ k ∧ k ≤ 14) ∨ k = 16
 ·rw [if_pos h3]; rfl
 rw [if_neg h3]
 by_cases h4 : k = 15
 ·rw [if_pos h4]; rfl
 rw [if_neg h4, if_neg (by omega), if_neg (by omega), if_neg (by omega), if_neg (by omega), if_neg (by omega), if_neg (by omega), if_neg (by omega), if_neg (by omega), if_neg (by omega), if_pos (by omega)]; rfl
section
variable {R : Int → Wd64 → Wd64 → Wd64} {heap : Wd64} {x x1 : Fr} {i : Ins} {v : Wd64} {ok : Bool}
end
end Go.Proofs.YtpgbpdnmjeoeoaaGreat

namespace Go.Proofs.YtpgbpdnmjeoeoaaGreat
open Go Go.RowKit

theorem rd3_of (i : Ins) : readsF i = rd2 i ++ if (hasF i.kind).args = true then i.args else [] := rfl
end Go.Proofs.YtpgbpdnmjeoeoaaGreat

namespace Go.Proofs.YtpgbpdnmjeoeoaaGreat
open Go Go.RowKit
section
variable {L : List Ins} {n : Nat} {f : Int} {ps : PS} {x : Fr}
end
/-! ### a new process -/
def mapT (b : Nat) : T := .v (.map (some b))
def mapsE (bs : List Nat) (fs : List Fn) : St := (bs.zip fs).map fun q => .map q.1 (lmT (whL q.2.code))
theorem mapsE_succ {bs : List Nat} {fs : List Fn} {j b : Nat} (h : j < fs.length) (hb : bs.length = j) : mapsE (bs ++ [b]) (fs.take (j + 1)) = mapsE bs (fs.take j) ++ [.map b (lmT (whL (fs.getD j default).code))] := by
 unfold mapsE
 rw [take_gd h, List.zip_append (by rw [hb, List.length_take]; omega), List.map_append]
 rfl
def psN (p : Prog) (lab : T) (heap : Wd64) (strict : Bool) (w pg : T) : PS := ⟨p, lab, heap, strict, w, pg, false, 0, 0#64, 0, 0⟩
end Go.Proofs.YtpgbpdnmjeoeoaaGreat

namespace Go.Proofs.YtpgbpdnmjeoeoaaGreat
open Go Go.RowKit

theorem pmN {α : Type} {a0 a1 a2 a3 : α} {Z : List α} : (a2 :: a0 :: a1 :: a3 :: Z).Perm (a0 :: a1 :: a2 :: a3 :: Z) :=
 (((((((((List.Perm.refl _).cons a3)).cons a1)).cons a0)).cons a2)).trans (List.perm_middle (a := a2) (l₁ := [a0, a1]) (l₂ := a3 :: Z)).symm

end Go.Proofs.YtpgbpdnmjeoeoaaGreat
