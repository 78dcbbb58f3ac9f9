/-
  TEXTS JOINED: Wk3, Wk4, Ws, Wt, Wu, Wv, Wk7, Wx, Wk8, Wk9, Wy.
-/
import Derived.Test.YtlfklgganokgdaaGreatQd
set_option linter.unusedSimpArgs false
set_option linter.unusedVariables false
set_option linter.unusedSectionVars false
set_option linter.unnecessarySimpa false
set_option maxHeartbeats 64000000
namespace Go.Proofs.YtlfklgganokgdaaGreat
open Go Go.RowKit

theorem reg58 (bc : Nat) (p : Prog) (f : Fn) (m : Value) (r : Int) :
    ACalls Tryz.prog 98 [pv bc, zi r] [.box bc 123 (chkCells p f m)] (fun t S => t = bv (inB f.regs r) ∧ S = [.box bc 123 (chkCells p f m)]) := by
 refine ai Tryz.func98 Tryz.ntmps98 fun X w0 => ?_
 refine rs (y1 ?_)
 refine nl (rs (y12 (nl ?_)))
 refine rt ?_
 exact ⟨rfl, rfl⟩

theorem ins35 (bc : Nat) (p : Prog) (f : Fn) (many : LM) (i : Ins) (m : Nat) (hp : ProgIn p) (hi : InsIn i) (hz : 0 ≤ p.zero ∧ p.zero ≤ 268435456) :
    ACalls Tryz.prog 77 [pv bc, .agg (insCells i)] [.box bc 123 (chkCells p f (.map (some m))), .map m (lmT many)] (fun t S => t = bv (insW p f many i) ∧ S = [.box bc 123 (chkCells p f (.map (some m))), .map m (lmT many)]) := by
 refine lsr (R := (fun t S => t = bv (insW p f many i) ∧ [.box bc 123 (chkCells p f (.map (some m))), .map m (lmT many)].Sublist S)) (fun t S' ⟨h1, h2⟩ => ⟨_, h2, h1, rfl⟩) ?_
 have hpf := hp.funs
 have hpd := hp.data
 have hal := hi.args
 refine ai Tryz.func77 Tryz.ntmps77 fun X w0 => ?_
 refine rs ?_
 refine bx fun b3 => ?_
 refine y1 ?_
 refine nl (rs (y2 ?_))
 refine kt (fields57 i.kind) ?_
 rintro t12 S12 rfl
 refine y3 ?_
 refine bx fun b5 => ?_
 refine y2 (nl ?_)
 refine AW.eqS (S' := [.box bc 123 (chkCells p f (.map (some m))), .map m (lmT many), .box b3 90 (insCells i), .box b5 143 (hasCells (hasF i.kind))]) rfl ?_
 refine sq (rs (y9 ?_))
 refine AWL.callKgT rfl rfl rfl rfl (B rfl) rfl ce_98 (E rfl rfl) (evsC (Eg rfl rfl id) (evsC (Eg rfl rfl id) evs0)) (S1 := [.box bc 123 (chkCells p f (.map (some m)))]) (S2 := _) rfl (fun hg => reg58 bc p f (.map (some m)) i.d) (fun t S h => h) ?_
 refine y10 ?_
 refine AWL.callKgT rfl rfl rfl rfl (B rfl) rfl ce_98 (E rfl rfl) (evsC (Eg rfl rfl id) (evsC (Eg rfl rfl id) evs0)) (S1 := [.box bc 123 (chkCells p f (.map (some m)))]) (S2 := _) rfl (fun hg => reg58 bc p f (.map (some m)) i.a) (fun t S h => h) ?_
 refine y10 ?_
 refine AWL.callKgT rfl rfl rfl rfl (B rfl) rfl ce_98 (E rfl rfl) (evsC (Eg rfl rfl id) (evsC (Eg rfl rfl id) evs0)) (S1 := [.box bc 123 (chkCells p f (.map (some m)))]) (S2 := _) rfl (fun hg => reg58 bc p f (.map (some m)) i.b) (fun t S h => h) ?_
 refine y3 (nl ?_)
 refine cq (fun h0t => ?_) fun h0f => ?_
 ·have h0tr := h0t
  try replace h0t := odt h0t
  refine rs (y1 (nl ?_))
  refine rt ?_
  refine ⟨by show bv _ = bv _; rw [ins_1 h0t], by simp⟩
 have h0fr := h0f
 try replace h0f := odf h0f
 refine sp (sq (rq (q24 ?_)))
 refine q17 ?_
 refine kT (Yv.eqT (Yv.lookup1 (k := .i _ _) (i := 1) rfl mp_87 rfl (Eg rfl rfl id) (Eg rfl rfl id) rfl (lm_good _ _ rfl)) (get_lm _ _)) ?_
 refine q23 (nq ?_)
 refine cq (fun h1t => ?_) fun h1f => ?_
 ·have h1tr := h1t
  try replace h1t := odt h1t
  refine rs (y1 (nl ?_))
  refine rt ?_
  refine ⟨by show bv _ = bv _; rw [ins_2 h0f h1t], by simp⟩
 have h1fr := h1f
 try replace h1f := odf h1f
 refine sp ?_
 refine AW.mid (α := Unit) (fun _ => [(0, true, pv bc), (3, true, pv b3), (5, true, pv b5)]) (fun _ => [.box bc 123 (chkCells p f (.map (some m))), .map m (lmT many), .box b3 90 (insCells i), .box b5 143 (hasCells (hasF i.kind))]) (fun _ => w3B (hasF i.kind) f.regs i = false) ?_ ?_
 ·refine rs (y2 (nl ?_))
  refine cq (fun h2t => ?_) fun h2f => ?_
  ·refine rs (y4 ?_)
   refine nl (bk ?_)
   refine lp1 (fun (j : Nat) => [(0, true, pv bc), (3, true, pv b3), (5, true, pv b5), (118, true, .sl 1 (i.args.map zi)), (119, true, .v (.int .i64 (i.args.length : Int))), (120, true, zv j)]) (fun (j : Nat) => [.box bc 123 (chkCells p f (.map (some m))), .map m (lmT many), .box b3 90 (insCells i), .box b5 143 (hasCells (hasF i.kind))]) (fun (j : Nat) => j ≤ i.args.length ∧ ∀ q, q < j → (!inB f.regs (i.args.getD q default)) = false) (fun (j : Nat) => i.args.length - j) 0 ?_ ?_
   ·exact ⟨Nat.zero_le _, fun q hq => absurd hq (Nat.not_lt_zero q)⟩
   intro j hinv
   obtain ⟨hj, hout⟩ := hinv
   refine rs (y1 ?_)
   refine nl (sq ?_)
   refine cq (fun _ => ?_) fun _ => ?_
   ·have hj2 : j < i.args.length := by omega
    refine sp (sq (bk (rs (y3 ?_))))
    refine nl (rs (y2 ?_))
    refine kk (reg58 bc p f (.map (some m)) (i.args.getD j default)) ?_
    refine y1 (nl ?_)
    refine cq (fun h4t => ?_) fun h4f => ?_
    ·refine rs (y1 (nl ?_))
     refine rt ?_
     refine ⟨by show bv _ = bv _; rw [ins_3 h0f h1f (by unfold w3B; rw [show (hasF i.kind).args = true from h2t, any_at hj2 h4t]; rfl)], by simp⟩
    refine sp (rg (y2 (nl ?_)))
    refine ⟨j + 1, ⟨by omega, fun q hq => ?_⟩, by omega, sbZ, rfl⟩
    rcases Nat.lt_or_ge q j with h | h
    ·exact hout q h
    obtain rfl : q = j := by omega
    exact h4f
   refine xt ?_
   refine ⟨(), by unfold w3B; rw [not_any (fun k hk => hout k (by omega)), Bool.and_false], sbZ, rfl⟩
  refine sp ?_
  refine ⟨(), by unfold w3B; rw [show (hasF i.kind).args = false from h2f, Bool.false_and], sbZ, rfl⟩
 rintro _ hA
 refine sq (rs (y2 ?_))
 refine nl (bk (rs (y2 (nl ?_))))
 refine cq (fun _ => ?_) fun _ => ?_
 ·refine rs (y9 (nl ?_))
  refine rt ?_
  refine ⟨?_, by simp⟩
  show bv _ = bv _
  rw [ins_4 h0f h1f hA]
  unfold restW
  rw [if_pos (by omega)]
 refine sq (rs (y2 (nl ?_)))
 refine cq (fun _ => ?_) fun _ => ?_
 ·refine sp ?_
  refine ct fun _ => ?_
  refine rs (y9 (nl ?_))
  refine rt ?_
  refine ⟨?_, by simp⟩
  show bv _ = bv _
  rw [ins_4 h0f h1f hA]
  unfold restW
  rw [if_neg (by omega), if_pos (by omega)]
 refine rg (y2 (nl ?_))
 refine cq (fun _ => ?_) fun _ => ?_
 ·refine rs (y9 (nl ?_))
  refine rt ?_
  refine ⟨?_, by simp⟩
  show bv _ = bv _
  rw [ins_4 h0f h1f hA]
  unfold restW
  rw [if_neg (by omega), if_pos (by omega)]
 refine sq (rs (y2 (nl ?_)))
 refine cq (fun _ => ?_) fun _ => ?_
 ·refine sp ?_
  refine ct fun _ => ?_
  have hff : (hasF i.kind).f = true := by
   have hk : i.kind = 22 ∨ i.kind = 24 := by omega
   rcases hk with h | h <;> rw [h] <;> rfl
  refine rq (q10 ?_)
  refine Q1 (Yv.indexSl (j := i.f.toNat) rfl ss_22 (B rfl) eV eV (fun hg => ⟨(Int.toNat_of_nonneg (w2_f h1f hff).1).symm, by rw [len_funs]; have := (w2_f h1f hff).2; omega⟩)) ?_
  refine q1 ?_
  refine Q1 (Yv.loadRp rfl ag_3 eV (fun hg => fpar_at (w2_f h1f hff).2)) ?_
  refine q2 (nq ?_)
  refine rt ?_
  refine ⟨?_, by simp⟩
  show bv _ = bv _
  rw [ins_4 h0f h1f hA]
  unfold restW
  repeat rewrite [if_neg (by omega)]
  rw [if_pos (by omega)]
  rfl
 refine rg (y2 (nl ?_))
 refine cq (fun _ => ?_) fun _ => ?_
 ·have hff : (hasF i.kind).f = true := by
   have hk : i.kind = 22 ∨ i.kind = 24 := by omega
   rcases hk with h | h <;> rw [h] <;> rfl
  refine rq (q10 ?_)
  refine Q1 (Yv.indexSl (j := i.f.toNat) rfl ss_22 (B rfl) eV eV (fun hg => ⟨(Int.toNat_of_nonneg (w2_f h1f hff).1).symm, by rw [len_funs]; have := (w2_f h1f hff).2; omega⟩)) ?_
  refine q1 ?_
  refine Q1 (Yv.loadRp rfl ag_3 eV (fun hg => fpar_at (w2_f h1f hff).2)) ?_
  refine q2 (nq ?_)
  refine rt ?_
  refine ⟨?_, by simp⟩
  show bv _ = bv _
  rw [ins_4 h0f h1f hA]
  unfold restW
  repeat rewrite [if_neg (by omega)]
  rw [if_pos (by omega)]
  rfl
 refine sq (rs (y2 (nl ?_)))
 refine cq (fun _ => ?_) fun _ => ?_
 ·refine sp ?_
  refine ct fun _ => ?_
  refine rs (y5 (nl ?_))
  refine rt ?_
  refine ⟨?_, by simp⟩
  show bv _ = bv _
  rw [ins_4 h0f h1f hA]
  unfold restW
  repeat rewrite [if_neg (by omega)]
  rw [if_pos (by omega)]
 refine rg (y2 (nl ?_))
 refine cq (fun _ => ?_) fun _ => ?_
 ·refine rs (y5 (nl ?_))
  refine rt ?_
  refine ⟨?_, by simp⟩
  show bv _ = bv _
  rw [ins_4 h0f h1f hA]
  unfold restW
  repeat rewrite [if_neg (by omega)]
  rw [if_pos (by omega)]
 refine rs (y2 (nl ?_))
 refine cq (fun _ => ?_) fun _ => ?_
 ·refine rs (y5 (nl ?_))
  refine rt ?_
  refine ⟨?_, by simp⟩
  show bv _ = bv _
  rw [ins_4 h0f h1f hA]
  unfold restW
  repeat rewrite [if_neg (by omega)]
  rw [if_pos (by omega)]
 refine rs (y2 (nl ?_))
 refine cq (fun _ => ?_) fun _ => ?_
 ·refine rq (q17 ?_)
  refine kT (Yv.addN_i64 rfl (Eg rfl rfl id) (Eg rfl rfl id) (fun hg => by first | omega | (simp only [Bool.and_eq_true, Bool.or_eq_false_iff, Bool.not_eq_true', Bool.not_eq_false', decide_eq_true_eq, decide_eq_false_iff_not] at hg; omega))) ?_
  refine q3 (nq ?_)
  refine rt ?_
  refine ⟨?_, by simp⟩
  show bv _ = bv _
  rw [ins_4 h0f h1f hA]
  unfold restW
  repeat rewrite [if_neg (by omega)]
  rw [if_pos (by omega)]
 refine sq (rs (y2 (nl ?_)))
 refine cq (fun _ => ?_) fun _ => ?_
 ·refine sp ?_
  refine ct fun _ => ?_
  refine rq (q14 (nq ?_))
  refine rt ?_
  refine ⟨?_, by simp⟩
  show bv _ = bv _
  rw [ins_4 h0f h1f hA]
  unfold restW
  repeat rewrite [if_neg (by omega)]
  rw [if_pos (by omega)]
 refine rg (y2 (nl ?_))
 refine cq (fun _ => ?_) fun _ => ?_
 ·refine rq (q14 (nq ?_))
  refine rt ?_
  refine ⟨?_, by simp⟩
  show bv _ = bv _
  rw [ins_4 h0f h1f hA]
  unfold restW
  repeat rewrite [if_neg (by omega)]
  rw [if_pos (by omega)]
 refine sp (rs (y1 (nl ?_)))
 refine rt ?_
 refine ⟨?_, by simp⟩
 show bv _ = bv _
 rw [ins_4 h0f h1f hA]
 unfold restW
 rw [if_neg (by omega), if_neg (by omega), if_neg (by omega), if_neg (by omega), if_neg (by omega), if_neg (by omega), if_neg (by omega)]


theorem function20 (bc : Nat) (p : Prog) (f : Fn) (hp : ProgIn p) (hf : FnIn f) (hz : 0 ≤ p.zero ∧ p.zero ≤ 268435456) :
    ACalls Tryz.prog 51 [pv bc] [.box bc 123 (chkCells p f (.map none))] (fun t S => t = bv (funW p f) ∧ S = []) := by
 refine lsr (R := (fun t S => t = bv (funW p f))) (fun t S' h => ⟨[], List.nil_sublist _, h, rfl⟩) ?_
 have hfc := hf.code
 refine ai Tryz.func51 Tryz.ntmps51 fun X w0 => ?_
 refine rs (y1 ?_)
 refine nl (rs (y4 ?_))
 refine bx fun b3 => ?_
 refine y1 (nl ?_)
 refine AW.eqS (S' := [.box bc 123 (chkCells p f (.map none)), .box b3 86 (fnCells f)]) rfl ?_
 refine rs (y4 ?_)
 refine nl (sq (rs (y24 ?_)))
 refine y14 ?_
 refine gF (Yv.subN_i64 rfl (Eg rfl rfl id) (E rfl rfl) (fun hg => by first | omega | (simp only [Bool.and_eq_true, Bool.or_eq_false_iff, Bool.not_eq_true', Bool.not_eq_false', decide_eq_true_eq, decide_eq_false_iff_not] at hg; omega))) ?_
 refine gF (Yv.indexSl (j := (f.code.length - 1)) rfl ss_84 (B rfl) (Eg rfl rfl id) (Eg rfl rfl id) (fun hg => by simp only [Bool.or_eq_true, Bool.and_eq_true, Bool.or_eq_false_iff, Bool.and_eq_false_iff, Bool.not_eq_true', Bool.not_eq_false', decide_eq_true_eq, decide_eq_false_iff_not, Decidable.not_not] at hg; exact ⟨by omega, by rw [len_code]; omega⟩)) ?_
 refine y1 ?_
 refine gF (Yv.loadRp rfl ag_3 (Eg rfl rfl id) (fun hg => ikind_at og)) ?_
 refine AWL.callPgF rfl rfl rfl rfl (B rfl) rfl ce_76 (E rfl rfl) (evsC (Eg rfl rfl id) evs0) (fun hg => ends34 (lastK f)) (fun t S h => h) ?_
 refine y2 (nl ?_)
 refine cq (fun h0t => ?_) fun h0f => ?_
 ·refine rs (y1 (nl ?_))
  refine rt ?_
  show bv _ = bv _
  rw [fw_1 h0t]
 refine sp (rs (y1 ?_))
 refine AWL.makeMapOp rfl rfl (B rfl) rfl (fun b62 => ?_)
 refine y3 (nl ?_)
 refine AW.perm (S' := [.box bc 123 (chkCells p f (.map (some b62))), .map b62 (lmT (cntL (f.code.take 0))), .box b3 86 (fnCells f)]) ((List.Perm.swap _ _ []).cons _) ?_
 refine sq (rs (y4 ?_))
 refine nl (bk ?_)
 refine lp1 (fun (j : Nat) => [(0, true, pv bc), (3, true, pv b3), (66, true, .sl 11 (f.code.flatMap insCells)), (67, true, .v (.int .i64 (f.code.length : Int))), (68, true, zv j)]) (fun (j : Nat) => [.box bc 123 (chkCells p f (.map (some b62))), .map b62 (lmT (cntL (f.code.take j))), .box b3 86 (fnCells f)]) (fun (j : Nat) => j ≤ f.code.length) (fun (j : Nat) => f.code.length - j) 0 ?_ ?_
 ·exact Nat.zero_le _
 intro j hinv
 have hj := hinv
 refine rs (y1 ?_)
 refine nl (sq ?_)
 refine cq (fun _ => ?_) fun _ => ?_
 ·have hj2 : j < f.code.length := by omega
  have hcb := cnt_bd (f.code.take j) (f.code.getD j default).l
  rw [List.length_take] at hcb
  refine sp (sq (bk (rs (y2 ?_))))
  refine bx fun b6 => ?_
  refine y1 ?_
  refine nl (rs (y3 (nl ?_)))
  refine cq (fun h2t => ?_) fun h2f => ?_
  ·refine AW.regionP rfl ?_
   refine phn 8 1 ?_
   refine q6 ?_
   refine Q1 (Yv.eqT (Yv.lookup1 (k := .i _ _) (i := 1) rfl mp_87 rfl eV eV rfl (lm_good _ _ rfl)) (get_lm _ _)) ?_
   refine q1 (nq ?_)
   refine op 8 ?_
   refine AWL.mapUpd (k := .i _ _) (i := 1) rfl rfl (.inl rfl) mp_87 rfl (E rfl rfl) (E rfl rfl) (E rfl rfl) rfl rfl (lm_good _ _ rfl) (nl ?_)
   refine dn ?_
   refine AW.dropAt 3 ?_
   refine rg (y2 (nl ?_))
   refine ⟨j + 1, by omega, by omega, sbZ, ?_⟩
   rw [cnt_succ hj2, cntStep, if_pos h2t, ← put_lm]
   rfl
  refine sp ?_
  refine AW.dropAt 3 ?_
  refine rg (y2 (nl ?_))
  refine ⟨j + 1, by omega, by omega, sbZ, ?_⟩
  rw [cnt_succ hj2, cntStep, if_neg h2f]
  rfl
 refine xt (sq ?_)
 obtain rfl : j = f.code.length := by omega
 rw [List.take_length]
 refine rs (y4 ?_)
 refine nl (bk ?_)
 refine lp1 (fun (q : Nat) => [(0, true, pv bc), (3, true, pv b3), (85, true, .sl 11 (f.code.flatMap insCells)), (86, true, .v (.int .i64 (f.code.length : Int))), (87, true, zv q)]) (fun (q : Nat) => [.box bc 123 (chkCells p f (.map (some b62))), .map b62 (lmT (cntL f.code)), .box b3 86 (fnCells f)]) (fun (q : Nat) => q ≤ f.code.length ∧ ∀ k, k < q → insW p f (cntL f.code) (f.code.getD k default) = true) (fun (q : Nat) => f.code.length - q) 0 ?_ ?_
 ·exact ⟨Nat.zero_le _, fun k hk => absurd hk (Nat.not_lt_zero k)⟩
 intro q hin3
 obtain ⟨hq, hmr⟩ := hin3
 refine rs (y1 ?_)
 refine nl (sq ?_)
 refine cq (fun _ => ?_) fun _ => ?_
 ·have hq2 : q < f.code.length := by omega
  refine sp (sq (bk (rs (y2 ?_))))
  refine bx fun b8 => ?_
  refine y1 ?_
  refine nl (rs (y2 ?_))
  refine kk (ins35 bc p f (cntL f.code) (f.code.getD q default) b62 hp (hf.ins _ (getD_mem hq2)) hz) ?_
  refine y1 (nl ?_)
  refine cq (fun h4t => ?_) fun h4f => ?_
  ·refine rs (y1 (nl ?_))
   refine rt ?_
   show bv _ = bv _
   rw [fw_2 hq2 (by simpa using h4t)]
  refine sp ?_
  refine AW.dropAt 3 ?_
  refine rg (y2 (nl ?_))
  refine ⟨q + 1, ⟨by omega, fun k hk => ?_⟩, by omega, sbZ, rfl⟩
  rcases Nat.lt_or_ge k q with h | h
  ·exact hmr k h
  obtain rfl : k = q := by omega
  simpa using h4f
 refine xt (rs (y1 (nl ?_)))
 refine rt ?_
 show bv _ = bv _
 rw [fw_ok h0f (fun k hk => hmr k (by omega))]

theorem Check6 (p : Prog) (hp : ProgIn p) :
    ACalls Tryz.prog 26 [.agg (progCells p)] [] (fun t S => t = zi (checkW p)) := by
 have hpf := hp.funs
 have hpd := hp.data
 have hall := hp.all
 refine ai Tryz.func26 Tryz.ntmps26 fun X w0 => ?_
 refine rs ?_
 refine bx fun b1 => ?_
 refine y1 ?_
 refine nl (sq (rs (y7 ?_)))
 refine gF (Yv.indexSl rfl ss_22 (B rfl) (E rfl rfl) (Eg rfl rfl id) (fun hg => ⟨rfl, (by first | omega | (simp only [len_code, len_funs, len_args, len_data]; omega) | (simp only [len_code, len_funs, len_args, len_data]; simp only [Bool.and_eq_true, Bool.or_eq_false_iff, Bool.not_eq_true', Bool.not_eq_false', decide_eq_true_eq, decide_eq_false_iff_not] at hg; omega))⟩)) ?_
 refine y1 ?_
 refine gF (Yv.loadRp rfl ag_3 (Eg rfl rfl id) (fun hg => fpar_at (j := 0) og)) ?_
 refine y18 ?_
 refine gF (Yv.subN_i64 rfl (E rfl rfl) (Eg rfl rfl id) (fun hg => by first | omega | (simp only [Bool.and_eq_true, Bool.or_eq_false_iff, Bool.not_eq_true', Bool.not_eq_false', decide_eq_true_eq, decide_eq_false_iff_not] at hg; omega))) ?_
 refine y2 (nl ?_)
 refine cq (fun h0t => ?_) fun h0f => ?_
 ·refine rs (y1 (nl ?_))
  refine rt ?_
  show zi _ = zi _
  rw [cw_0 h0t]
 refine sp (rs (y1 ?_))
 refine nl (sq (rs (y4 ?_)))
 refine nl (bk ?_)
 refine lp1 (fun (j : Nat) => [(1, true, pv b1), (3, true, .v (.int .i64 (sumC p j : Int))), (41, true, .sl 5 (p.funs.flatMap fnCells)), (42, true, .v (.int .i64 (p.funs.length : Int))), (43, true, zv j)]) (fun (j : Nat) => [.box b1 25 (progCells p)]) (fun (j : Nat) => j ≤ p.funs.length) (fun (j : Nat) => p.funs.length - j) 0 ?_ ?_
 ·exact Nat.zero_le _
 intro j hinv
 refine rs (y1 ?_)
 refine nl (sq ?_)
 refine cq (fun _ => ?_) fun _ => ?_
 ·have hj : j < p.funs.length := by omega
  have hs1 := sumC_le p (j + 1)
  have hs2 := sumC_succ hj
  refine sp (sq (bk (rs (y2 ?_))))
  refine bx fun b5 => ?_
  refine y1 ?_
  refine nl (rg (y6 (nl ?_)))
  refine AW.dropAt 1 ?_
  refine rg (y2 (nl ?_))
  refine ⟨j + 1, by omega, by omega, (su (Sub.cons rfl (by rw [sumC_succ hj]; simp) sbZ)), rfl⟩
 have hs3 := sumC_le p p.funs.length
 obtain rfl : j = p.funs.length := by omega
 refine xt (sq (rs (y2 (nl ?_))))
 refine cf fun _ => ?_
 refine sp (sq (rs (y4 ?_)))
 refine nl (bk ?_)
 refine lp1 (fun (j : Nat) => [(1, true, pv b1), (56, true, .sl 5 (p.funs.flatMap fnCells)), (57, true, .v (.int .i64 (p.funs.length : Int))), (58, true, zv j)]) (fun (j : Nat) => [.box b1 25 (progCells p)]) (fun (j : Nat) => j ≤ p.funs.length ∧ ∀ k, k < j → funW p (p.funs.getD k default) = true) (fun (j : Nat) => p.funs.length - j) 0 ?_ ?_
 ·exact ⟨Nat.zero_le _, fun k hk => absurd hk (Nat.not_lt_zero k)⟩
 intro j hinv
 obtain ⟨hj2, hfr⟩ := hinv
 refine rs (y1 ?_)
 refine nl (sq ?_)
 refine cq (fun _ => ?_) fun _ => ?_
 ·have hjl : j < p.funs.length := by omega
  have hfi := hp.fn _ (getD_mem hjl)
  have hfc := hfi.code
  refine sp (sq (bk (rs (y2 ?_))))
  refine bx fun b7 => ?_
  refine y1 (nl ?_)
  refine AW.eqS (S' := [.box b1 25 (progCells p), .box b7 86 (fnCells (p.funs.getD j default))]) rfl ?_
  refine rs (y3 ?_)
  refine bx fun b65 => ?_
  refine y1 (nl ?_)
  refine AW.perm (S' := [.box b65 123 (chkCells p (p.funs.getD j default) (.map none)), .box b1 25 (progCells p), .box b7 86 (fnCells (p.funs.getD j default))]) (List.perm_append_comm (l₁ := ([.box b65 123 (chkCells p (p.funs.getD j default) (.map none))] : St)) (l₂ := [.box b1 25 (progCells p), .box b7 86 (fnCells (p.funs.getD j default))])) ?_
  refine rs (y1 ?_)
  refine kc (function20 b65 p (p.funs.getD j default) hp hfi (pb_zero h0f)) ?_
  rintro t67 S67 ⟨rfl, rfl⟩
  refine y1 (nl ?_)
  refine cq (fun h4t => ?_) fun h4f => ?_
  ·refine rs (y1 (nl ?_))
   refine rt ?_
   show zi _ = zi _
   rw [cw_bad h0f (by have := sumC_le p p.funs.length; omega) hjl (by simpa using h4t)]
  refine sp ?_
  refine AW.dropAt 1 ?_
  refine rg (y2 (nl ?_))
  refine ⟨j + 1, ⟨by omega, fun k hk => ?_⟩, by omega, sbZ, rfl⟩
  rcases Nat.lt_or_ge k j with h | h
  ·exact hfr k h
  obtain rfl : k = j := by omega
  simpa using h4f
 refine xt (rs (y1 (nl ?_)))
 refine rt ?_
 show zi _ = zi _
 rw [cw_ok h0f (by have := sumC_le p p.funs.length; omega) (fun k hk => hfr k (by omega))]

def rd1 (i : Ins) : List Int := if (hasF i.kind).a = true then [i.a] else []
def rd2 (i : Ins) : List Int := rd1 i ++ if (hasF i.kind).b = true then [i.b] else []
def readsF (i : Ins) : List Int := rd2 i ++ if (hasF i.kind).args = true then i.args else []
theorem rd1_t {i : Ins} (h : (hasF i.kind).a = true) : rd1 i = [i.a] := if_pos h
theorem rd1_f {i : Ins} (h : (hasF i.kind).a = false) : rd1 i = [] := if_neg (by rw [h]; decide)
theorem rd2_t {i : Ins} (h : (hasF i.kind).b = true) : rd2 i = rd1 i ++ [i.b] := by rw [rd2, if_pos h]
theorem rd2_f {i : Ins} (h : (hasF i.kind).b = false) : rd2 i = rd1 i := by rw [rd2, if_neg (by rw [h]; decide), List.append_nil]
theorem rd3_t {i : Ins} (h : (hasF i.kind).args = true) : readsF i = rd2 i ++ i.args := by rw [readsF, if_pos h]
theorem rd3_f {i : Ins} (h : (hasF i.kind).args = false) : readsF i = rd2 i := by rw [readsF, if_neg (by rw [h]; decide), List.append_nil]
def nx1 (wh : LM) (i : Ins) : List Int := if i.kind = 20 ∨ i.kind = 21 then [getL i.l wh] else []
def nextF (wh : LM) (i : Ins) (k : Nat) : List Int := nx1 wh i ++ if endsF i.kind = true then [] else [(k : Int) + 1]
theorem nx1_t {wh : LM} {i : Ins} (h : i.kind = 20 ∨ i.kind = 21) : nx1 wh i = [getL i.l wh] := if_pos h
theorem nx1_f {wh : LM} {i : Ins} (h : ¬ (i.kind = 20 ∨ i.kind = 21)) : nx1 wh i = [] := if_neg h
theorem nx_t {wh : LM} {i : Ins} {k : Nat} (h : endsF i.kind = true) : nextF wh i k = nx1 wh i := by rw [nextF, if_pos h, List.append_nil]
theorem nx_f {wh : LM} {i : Ins} {k : Nat} (h : endsF i.kind = false) : nextF wh i k = nx1 wh i ++ [(k : Int) + 1] := by rw [nextF, if_neg (by rw [h]; decide)]
def bh1 (regs : Nat) (i : Ins) (s : List Bool) : List Bool := if i.kind = 22 ∨ i.kind = 23 then List.replicate regs false ++ s.drop regs else s
def bh2 (regs : Nat) (i : Ins) (s : List Bool) : List Bool := if (hasF i.kind).d = true then (bh1 regs i s).set i.d.toNat true else bh1 regs i s
def behindF (regs : Nat) (i : Ins) (s : List Bool) : List Bool := if i.kind = 32 then (bh2 regs i s).set (regs + i.imm.toNat) true else bh2 regs i s
theorem bh1_len {regs : Nat} {i : Ins} {s : List Bool} (h : regs ≤ s.length) : (bh1 regs i s).length = s.length := by
 unfold bh1
 split
 ·rw [List.length_append, List.length_replicate, List.length_drop]; omega
 rfl
theorem bh2_len {regs : Nat} {i : Ins} {s : List Bool} (h : regs ≤ s.length) : (bh2 regs i s).length = s.length := by
 unfold bh2
 split
 ·rw [List.length_set, bh1_len h]
 exact bh1_len h
theorem behind_len {regs : Nat} {i : Ins} {s : List Bool} (h : regs ≤ s.length) : (behindF regs i s).length = s.length := by
 unfold behindF
 split
 ·rw [List.length_set, bh2_len h]
 exact bh2_len h
theorem rep_set {j regs : Nat} {s : List Bool} (hj : j < regs) (h : regs ≤ s.length) : (List.replicate j false ++ s.drop j).set j false = List.replicate (j + 1) false ++ s.drop (j + 1) := by
 rw [List.set_append_right _ _ (by simp)]
 simp only [List.length_replicate, Nat.sub_self]
 rw [List.drop_eq_getElem_cons (by omega), List.set_cons_zero, List.replicate_succ', List.append_assoc]
 rfl
theorem map_set {α : Type} {f : α → T} {l : List α} {j : Nat} {a : α} : (l.map f).set j (f a) = (l.set j a).map f := (List.map_set ..).symm
structure InsOk (p : Prog) (f : Fn) (many : LM) (i : Ins) : Prop where
 is : isF i.kind = true
 d : (hasF i.kind).d = true → 0 ≤ i.d ∧ i.d < f.regs
 a : (hasF i.kind).a = true → 0 ≤ i.a ∧ i.a < f.regs
 b : (hasF i.kind).b = true → 0 ≤ i.b ∧ i.b < f.regs
 args : (hasF i.kind).args = true → (∀ r ∈ i.args, 0 ≤ r ∧ r < f.regs) ∧ (i.args.length : Int) ≤ mostF i.kind
 cond : (hasF i.kind).cond = true → 1 ≤ i.cond ∧ i.cond ≤ 6
 size : (hasF i.kind).size = true → i.size = 1 ∨ i.size = 4 ∨ i.size = 8
 lab : (hasF i.kind).l = true → getL i.l many = 1
 fn : (hasF i.kind).f = true → 0 ≤ i.f ∧ i.f.toNat < p.funs.length
 par : (hasF i.kind).args = true → (hasF i.kind).f = true → (i.args.length : Int) = parF p i.f
 slot : i.kind = 31 ∨ i.kind = 32 → 0 ≤ i.imm ∧ i.imm < f.slots
 real : i.kind = 16 → 1 ≤ i.real ∧ i.real ≤ 8
 off : i.kind = 17 ∨ i.kind = 18 → -2147483648 ≤ i.imm ∧ i.imm ≤ 2147483647
 dat : i.kind = 27 → 0 ≤ i.imm ∧ i.imm ≤ p.data.length + p.zero
theorem may_ok {p : Prog} {f : Fn} {many : LM} {i : Ins} (h : mayR p f many i = true) : InsOk p f many i := by
 cases h0 : isF i.kind with
 | false => rw [may_0 (by rw [h0]; rfl)] at h; cases h
 | true =>
 have h0' : (!isF i.kind) = false := by rw [h0]; rfl
 cases h1 : badRB (hasF i.kind) f.regs i with
 | true => rw [may_1 h0' h1] at h; cases h
 | false =>
 cases h2 : badCB (hasF i.kind) i with
 | true => rw [may_2 h0' h1 h2] at h; cases h
 | false =>
 cases h3 : badLB (hasF i.kind) p.funs.length many i with
 | true => rw [may_3 h0' h1 h2 h3] at h; cases h
 | false =>
 cases h4 : badAB (hasF i.kind) f.regs i with
 | true => rw [may_4 h0' h1 h2 h3 h4] at h; cases h
 | false =>
 cases h5 : badNB (hasF i.kind) p i with
 | true => rw [may_5 h0' h1 h2 h3 h4 h5] at h; cases h
 | false =>
 rw [may_6 h0' h1 h2 h3 h4 h5] at h
 have q1 := h1
 unfold badRB at q1
 simp only [Bool.or_eq_false_iff, Bool.and_eq_false_iff, decide_eq_false_iff_not] at q1
 have q2 := h2
 unfold badCB at q2
 simp only [Bool.or_eq_false_iff, Bool.and_eq_false_iff, decide_eq_false_iff_not, Bool.not_eq_false', decide_eq_true_eq] at q2
 have q3 := h3
 unfold badLB at q3
 simp only [Bool.or_eq_false_iff, Bool.and_eq_false_iff, decide_eq_false_iff_not, Bool.not_eq_false', decide_eq_true_eq] at q3
 have q5 := h5
 unfold badNB at q5
 simp only [Bool.or_eq_false_iff, Bool.and_eq_false_iff, decide_eq_false_iff_not, Bool.not_eq_false', decide_eq_true_eq] at q5
 refine ⟨h0, fun e => ?_, fun e => ?_, fun e => ?_, fun e => ⟨fun r hr => ?_, ?_⟩, fun e => ?_, fun e => ?_, fun e => ?_, fun e => lb_lt h3 e, fun e e' => ?_, fun e => ?_, fun e => ?_, fun e => ?_, fun e => ?_⟩
 ·rw [e] at q1; simp at q1; omega
 ·rw [e] at q1; simp at q1; omega
 ·rw [e] at q1; simp at q1; omega
 ·have q4 := h4
  unfold badAB at q4
  rw [e, Bool.true_and, List.any_eq_false] at q4
  have := q4 r hr
  unfold outB at this
  simp at this
  omega
 ·rw [e] at q5; simp at q5; omega
 ·rw [e] at q2; simp at q2; omega
 ·rw [e] at q2; simp at q2; omega
 ·rw [e] at q3; simp at q3; omega
 ·rw [e, e'] at q5; simp at q5; exact q5.2
 ·unfold restB at h
  rw [if_neg (by omega), if_neg (by omega), if_neg (by omega), if_pos e] at h
  simp only [Bool.and_eq_true, decide_eq_true_eq] at h
  exact h
 ·unfold restB at h
  rw [if_pos e] at h
  simp only [Bool.and_eq_true, decide_eq_true_eq] at h
  exact h
 ·unfold restB at h
  rw [if_neg (by omega), if_pos e] at h
  simp only [Bool.and_eq_true, decide_eq_true_eq] at h
  exact h
 unfold restB at h
 rw [if_neg (by omega), if_neg (by omega), if_pos e] at h
 simp only [Bool.and_eq_true, decide_eq_true_eq] at h
 exact h
structure FnOk (p : Prog) (f : Fn) : Prop where
 par0 : 0 ≤ f.params
 par1 : f.params ≤ 4
 par2 : f.params ≤ f.regs
 regs : f.regs ≤ 65536
 slot0 : 0 ≤ f.slots
 slot1 : f.slots ≤ 1048576
 code : 0 < f.code.length
 last : endsF (lastK f) = true
 ins : ∀ i ∈ f.code, InsOk p f (cntL f.code) i
theorem fun_good {p : Prog} {f : Fn} (h : funR p f = true) : FnOk p f := by
 unfold funR at h
 rw [Bool.and_eq_true, Bool.and_eq_true, Bool.not_eq_true', List.all_eq_true] at h
 have q := h.1.1
 unfold badFB at q
 simp only [Bool.or_eq_false_iff, decide_eq_false_iff_not] at q
 exact ⟨by omega, by omega, by omega, by omega, by omega, by omega, by omega, h.1.2, fun i hi => may_ok (h.2 i hi)⟩
structure ProgOk (p : Prog) : Prop where
 first : (p.funs.getD 0 default).params = 0
 some : 0 < p.funs.length
 zero : 0 ≤ p.zero ∧ p.zero ≤ 268435456
 data : p.data.length + p.zero ≤ 268435456
 fn : ∀ f ∈ p.funs, FnOk p f
theorem check_good {p : Prog} (h : checkR p = 0) : ProgOk p := by
 unfold checkR at h
 cases hp : badPB p with
 | true => rw [if_pos hp] at h; cases h
 | false =>
  rw [if_neg (by rw [hp]; decide)] at h
  split at h
  ·cases h
  split at h
  ·rename_i ha
   rw [List.all_eq_true] at ha
   have q := hp
   unfold badPB at q
   simp only [Bool.or_eq_false_iff, decide_eq_false_iff_not, Bool.not_eq_false', decide_eq_true_eq] at q
   exact ⟨by omega, by omega, by omega, by omega, fun f hf => fun_good (ha f hf)⟩
  ·cases h
abbrev Fam := List (Option (List Bool))
def leB (a b : List Bool) : Prop := ∀ n, a.getD n false = true → b.getD n false = true
def leO : Option (List Bool) → Option (List Bool) → Prop
 | _, none => True
 | none, some _ => False
 | some a, some b => leB a b
def famAt (X : Fam) (k : Nat) : Option (List Bool) := X.getD k none
def firstF (R W P : Nat) : List Bool := List.replicate P true ++ List.replicate (W - P) false
structure Sol (f : Fn) (R W : Nat) (Y : Fam) : Prop where
 len : Y.length = f.code.length
 bits : ∀ k a, famAt Y k = some a → a.length = W
 first : ∃ a, famAt Y 0 = some a ∧ leB a (firstF R W f.params.toNat)
 step : ∀ k a, k < f.code.length → famAt Y k = some a → ∀ l ∈ nextF (whL f.code) (f.code.getD k default) k, leO (famAt Y l.toNat) (some (behindF R (f.code.getD k default) a))
def readOkB (R : Nat) (i : Ins) (a : List Bool) : Bool := (readsF i).all (fun r => a.getD r.toNat false) && (!decide (i.kind = 31) || a.getD (R + i.imm.toNat) false)
def ReadsOk (f : Fn) (R : Nat) (X : Fam) : Prop := ∀ k a, k < f.code.length → famAt X k = some a → readOkB R (f.code.getD k default) a = true
def StrictF (f : Fn) : Prop := ∃ Y, Sol f f.regs.toNat (f.regs.toNat + f.slots.toNat) Y ∧ ReadsOk f f.regs.toNat Y
theorem leB.refl (a : List Bool) : leB a a := fun _ h => h
theorem leB.trans {a b c : List Bool} (h : leB a b) (h' : leB b c) : leB a c := fun n q => h' n (h n q)
theorem leO.trans {a b c : Option (List Bool)} (h : leO a b) (h' : leO b c) : leO a c := by
 cases c with
 | none => cases a <;> trivial
 | some c =>
  cases b with
  | none => exact absurd h' (by cases a <;> exact id)
  | some b =>
   cases a with
   | none => exact h
   | some a => exact leB.trans h h'
theorem getD_set {l : List Bool} {i n : Nat} {b : Bool} : (l.set i b).getD n false = if i = n ∧ i < l.length then b else l.getD n false := by
 simp only [List.getD_eq_getElem?_getD, List.getElem?_set]
 by_cases h : i = n
 ·subst h
  by_cases h2 : i < l.length
  ·simp [h2]
  simp [h2]
 simp [h]
theorem leB.set {a b : List Bool} (h : leB a b) (hl : a.length = b.length) (i : Nat) : leB (a.set i true) (b.set i true) := fun n q => by
 rw [getD_set] at q ⊢
 split at q
 ·rename_i h1; rw [if_pos ⟨h1.1, by omega⟩]
 ·rename_i h1; rw [if_neg (fun h2 => h1 ⟨h2.1, by omega⟩)]; exact h n q
theorem getD_rep {R : Nat} {s : List Bool} {n : Nat} (h : R ≤ s.length) : (List.replicate R false ++ s.drop R).getD n false = if n < R then false else s.getD n false := by
 simp only [List.getD_eq_getElem?_getD]
 by_cases hn : n < R
 ·rw [List.getElem?_append_left (by simpa using hn), if_pos hn]
  simp [hn]
 rw [List.getElem?_append_right (by simp; omega), if_neg hn, List.getElem?_drop, List.length_replicate, show R + (n - R) = n by omega]
theorem behind_mono {R : Nat} {i : Ins} {a b : List Bool} (h : leB a b) (hl : a.length = b.length) (hR : R ≤ a.length) : leB (behindF R i a) (behindF R i b) := by
 have h1 : leB (bh1 R i a) (bh1 R i b) := by
  unfold bh1
  split
  ·intro n q
   rw [getD_rep (by omega)] at q ⊢
   split at q
   ·cases q
   ·rename_i h2; rw [if_neg h2]; exact h n q
  ·exact h
 have l1 : (bh1 R i a).length = (bh1 R i b).length := by rw [bh1_len hR, bh1_len (by omega), hl]
 have h2 : leB (bh2 R i a) (bh2 R i b) := by
  unfold bh2
  split
  ·exact h1.set l1 _
  ·exact h1
 have l2 : (bh2 R i a).length = (bh2 R i b).length := by rw [bh2_len hR, bh2_len (by omega), hl]
 unfold behindF
 split
 ·exact h2.set l2 _
 exact h2
/-! ### the search for the greatest family -/
def meetB (a b : List Bool) : List Bool := List.zipWith (· && ·) a b
def meetX (X : Fam) (l : Nat) (out : List Bool) : Fam := X.set l (some (match famAt X l with | none => out | some a => meetB a out))
theorem meet_get {a b : List Bool} (hl : a.length = b.length) (n : Nat) : (meetB a b).getD n false = (a.getD n false && b.getD n false) := by
 unfold meetB
 simp only [List.getD_eq_getElem?_getD, List.getElem?_zipWith]
 by_cases h : n < a.length
 ·rw [List.getElem?_eq_getElem h, List.getElem?_eq_getElem (by omega)]; rfl
 rw [List.getElem?_eq_none (by omega), List.getElem?_eq_none (by omega)]; rfl
theorem famAt_set {X : Fam} {l k : Nat} {v : Option (List Bool)} (hl : l < X.length) : famAt (X.set l v) k = if k = l then v else famAt X k := by
 unfold famAt
 simp only [List.getD_eq_getElem?_getD, List.getElem?_set]
 by_cases h : l = k
 ·subst h; simp [hl]
 rw [if_neg h, if_neg (fun e => h e.symm)]
def Above (f : Fn) (R W : Nat) (X : Fam) : Prop := ∀ Y, Sol f R W Y → ∀ k, leO (famAt Y k) (famAt X k)
structure FamIn (f : Fn) (W : Nat) (X : Fam) : Prop where
 len : X.length = f.code.length
 bits : ∀ k a, famAt X k = some a → a.length = W
theorem FamIn.meet {f : Fn} {W l : Nat} {X : Fam} {out : List Bool} (h : FamIn f W X) (hl : l < f.code.length) (ho : out.length = W) : FamIn f W (meetX X l out) := by
 refine ⟨by unfold meetX; rw [List.length_set, h.len], fun k a ha => ?_⟩
 unfold meetX at ha
 rw [famAt_set (by rw [h.len]; exact hl)] at ha
 split at ha
 ·cases hX : famAt X l with
  | none => rw [hX] at ha; simp only [Option.some.injEq] at ha; rw [← ha]; exact ho
  | some c =>
   rw [hX] at ha
   simp only [Option.some.injEq] at ha
   rw [← ha]
   unfold meetB
   rw [List.length_zipWith, h.bits _ c hX, ho, Nat.min_self]
 exact h.bits k a ha
/-! ### how much is left -/
def potO (W : Nat) : Option (List Bool) → Nat
 | none => W + 1
 | some a => a.countP id
def pot (W : Nat) (X : Fam) : Nat := (X.map (potO W)).sum
theorem sum_set {l : List Nat} {k : Nat} {v : Nat} (h : k < l.length) : (l.set k v).sum + l.getD k 0 = l.sum + v := by
 induction l generalizing k with
 | nil => simp at h
 | cons x r ih =>
  cases k with
  | zero => simp; omega
  | succ k =>
   have := ih (k := k) (by simpa using h)
   simp only [List.set_cons_succ, List.sum_cons, List.getD_cons_succ]
   omega
theorem pot_set {W k : Nat} {X : Fam} {v : Option (List Bool)} (h : k < X.length) : pot W (X.set k v) + potO W (famAt X k) = pot W X + potO W v := by
 unfold pot
 rw [List.map_set]
 have := sum_set (l := X.map (potO W)) (k := k) (v := potO W v) (by simpa using h)
 rw [show (X.map (potO W)).getD k 0 = potO W (famAt X k) by unfold famAt; simp [h]] at this
 exact this
theorem count_le (a : List Bool) : a.countP id ≤ a.length := List.countP_le_length
theorem wh_pre {code : List Ins} (l : Int) : ∀ j, j ≤ code.length → 1 ≤ getL l (cntL (code.take j)) → 0 ≤ getL l (whT code j) ∧ getL l (whT code j) < j := by
 intro j
 induction j with
 | zero => intro _ h; simp [cntL, getL] at h
 | succ j ih =>
  intro hj h
  rw [cnt_succ (by omega)] at h
  rw [wh_succ (by omega)]
  have ih := ih (by omega)
  unfold cntStep at h
  unfold whStep
  by_cases hk : (code.getD j default).kind = 19
  ·rw [if_pos hk] at h ⊢
   rw [getL_put] at h ⊢
   by_cases hl : l = (code.getD j default).l
   ·rw [if_pos hl]; constructor <;> simp only <;> omega
   ·rw [if_neg hl] at h ⊢
    have := ih h
    omega
  ·rw [if_neg hk] at h ⊢
   have := ih h
   omega
theorem wh_in {code : List Ins} {l : Int} (h : 1 ≤ getL l (cntL code)) : 0 ≤ getL l (whL code) ∧ getL l (whL code) < code.length := by
 have := wh_pre (code := code) l code.length (Nat.le_refl _) (by rw [List.take_length]; exact h)
 rwa [wh_all (Nat.le_refl _)] at this
theorem next_in {p : Prog} {f : Fn} (hf : FnOk p f) {k : Nat} (hk : k < f.code.length) : ∀ l ∈ nextF (whL f.code) (f.code.getD k default) k, 0 ≤ l ∧ l.toNat < f.code.length := by
 intro l hl
 unfold nextF at hl
 rcases List.mem_append.1 hl with hl | hl
 ·unfold nx1 at hl
  split at hl
  ·rename_i hk2
   rw [List.mem_singleton] at hl
   subst hl
   have hlab := (hf.ins _ (getD_mem hk)).lab (by rcases hk2 with h | h <;> rw [h] <;> rfl)
   have := wh_in (code := f.code) (l := (f.code.getD k default).l) (by omega)
   omega
  cases hl
 split at hl
 ·cases hl
 rename_i he
 rw [List.mem_singleton] at hl
 subst hl
 have : k + 1 ≠ f.code.length := fun e => he (by
  have h1 := hf.last
  unfold lastK at h1
  rwa [show f.code.length - 1 = k by omega] at h1)
 omega
theorem reads_in {p : Prog} {f : Fn} {many : LM} {i : Ins} (h : InsOk p f many i) : ∀ r ∈ readsF i, 0 ≤ r ∧ r < f.regs := by
 intro r hr
 unfold readsF rd2 rd1 at hr
 rcases List.mem_append.1 hr with hr | hr
 ·rcases List.mem_append.1 hr with hr | hr
  ·split at hr
   ·rename_i e; rw [List.mem_singleton.1 hr]; exact h.a e
   cases hr
  split at hr
  ·rename_i e; rw [List.mem_singleton.1 hr]; exact h.b e
  cases hr
 split at hr
 ·rename_i e; exact (h.args e).1 r hr
 cases hr
structure Sl where
 A : Option Addr
 c : Nat
 v : Option (List Bool)
 deriving Inhabited
def Sl.bits (s : Sl) : List Bool := s.v.getD []
theorem meet_len {a out : List Bool} (h : a.length = out.length) : (meetB a out).length = a.length := by unfold meetB; rw [List.length_zipWith, h, Nat.min_self]
theorem meet_count : ∀ {a out : List Bool}, a.length = out.length → (meetB a out).countP id ≤ a.countP id ∧ (meetB a out ≠ a → (meetB a out).countP id < a.countP id)
 | [], [], _ => ⟨Nat.le_refl _, fun h => absurd rfl h⟩
 | x :: a, y :: out, h => by
  have ih := meet_count (a := a) (out := out) (by simpa using h)
  have e : meetB (x :: a) (y :: out) = (x && y) :: meetB a out := rfl
  rw [e, List.countP_cons, List.countP_cons]
  cases x with
  | false => refine ⟨by simpa using ih.1, fun hne => ?_⟩; have := ih.2 (fun e2 => hne (by rw [e2]; rfl)); simpa using this
  | true =>
   cases y with
   | true => refine ⟨by simpa using ih.1, fun hne => ?_⟩; have := ih.2 (fun e2 => hne (by rw [e2]; rfl)); simpa using this
   | false => constructor <;> (try intro _) <;> simp <;> have := ih.1 <;> omega
/-! ### a round -/
structure FI (f : Fn) (R W : Nat) (X0 X : Fam) (more : Bool) : Prop where
 fin : FamIn f W X
 ab : Above f R W X
 fst : ∃ a, famAt X 0 = some a ∧ leB a (firstF R W f.params.toNat)
 le : pot W X ≤ pot W X0
 lt : more = true → pot W X < pot W X0
 eq : more = false → X = X0
theorem FI.start {f : Fn} {R W : Nat} {X : Fam} (h1 : FamIn f W X) (h2 : Above f R W X) (h3 : ∃ a, famAt X 0 = some a ∧ leB a (firstF R W f.params.toNat)) : FI f R W X X false := ⟨h1, h2, h3, Nat.le_refl _, fun h => (by cases h), fun _ => rfl⟩
def chg (X : Fam) (l : Nat) (out : List Bool) : Bool := match famAt X l with | none => true | some a => !decide (meetB a out = a)
theorem FI.meet {f : Fn} {R W k : Nat} {X0 X : Fam} {more : Bool} {a : List Bool} {l : Int} (h : FI f R W X0 X more) (hR : R ≤ W) (hk : k < f.code.length) (hal : a.length = W) (ha : ∀ Y, Sol f R W Y → leO (famAt Y k) (some a)) (hl : l ∈ nextF (whL f.code) (f.code.getD k default) k) (hll : l.toNat < f.code.length) :
    FI f R W X0 (meetX X l.toNat (behindF R (f.code.getD k default) a)) (more || chg X l.toNat (behindF R (f.code.getD k default) a)) := by
 have hob : (behindF R (f.code.getD k default) a).length = W := by rw [behind_len (by omega), hal]
 have hlX : l.toNat < X.length := by rw [h.fin.len]; exact hll
 have hpot := pot_set (W := W) (v := some (match famAt X l.toNat with | none => behindF R (f.code.getD k default) a | some c => meetB c (behindF R (f.code.getD k default) a))) hlX
 have hle : pot W (meetX X l.toNat (behindF R (f.code.getD k default) a)) ≤ pot W X ∧ (chg X l.toNat (behindF R (f.code.getD k default) a) = true → pot W (meetX X l.toNat (behindF R (f.code.getD k default) a)) < pot W X) ∧ (chg X l.toNat (behindF R (f.code.getD k default) a) = false → meetX X l.toNat (behindF R (f.code.getD k default) a) = X) := by
  unfold meetX chg
  cases hX : famAt X l.toNat with
  | none =>
   rw [hX] at hpot
   have := count_le (behindF R (f.code.getD k default) a)
   simp only [potO] at hpot ⊢
   exact ⟨by omega, fun _ => by omega, fun h => by cases h⟩
  | some c =>
   rw [hX] at hpot
   have hcl := h.fin.bits _ c hX
   have hc := meet_count (a := c) (out := behindF R (f.code.getD k default) a) (by rw [hcl, hob])
   simp only [potO] at hpot ⊢
   refine ⟨by omega, fun hch => ?_, fun hch => ?_⟩
   ·simp only [Bool.not_eq_true', decide_eq_false_iff_not] at hch
    have := hc.2 hch
    omega
   ·simp only [Bool.not_eq_false', decide_eq_true_eq] at hch
    rw [hch]
    unfold famAt at hX
    apply List.ext_getElem?
    intro q
    rw [List.getElem?_set]
    split
    ·rename_i hq
     subst hq
     rw [List.getD_eq_getElem?_getD, List.getElem?_eq_getElem hlX] at hX
     rw [List.getElem?_eq_getElem hlX]
     simp only [Option.getD_some] at hX
     rw [hX]
    ·rfl
 refine ⟨h.fin.meet hll hob, fun Y hY q => ?_, ?_, by have := h.le; omega, fun hm => ?_, fun hm => ?_⟩
 ·have hx := h.ab Y hY
  unfold meetX
  rw [famAt_set hlX]
  by_cases hq : q = l.toNat
  ·subst hq
   rw [if_pos rfl]
   have hyk := ha Y hY
   cases hy : famAt Y k with
   | none => rw [hy] at hyk; exact absurd hyk id
   | some b =>
    rw [hy] at hyk
    have hbl := hY.bits k b hy
    have h1 := hY.step k b hk hy l hl
    have h2 := h1.trans (c := some (behindF R (f.code.getD k default) a)) (behind_mono hyk (by rw [hbl, hal]) (by omega))
    cases hX : famAt X l.toNat with
    | none => exact h2
    | some c =>
     have h3 := hx l.toNat
     rw [hX] at h3
     cases hz : famAt Y l.toNat with
     | none => rw [hz] at h3; exact absurd h3 id
     | some z =>
      rw [hz] at h2 h3
      intro n hn
      have hcl := h.fin.bits _ c hX
      rw [meet_get (by rw [hcl, hob]), h2 n hn, h3 n hn]
      rfl
  rw [if_neg hq]; exact hx q
 ·obtain ⟨z, hz1, hz2⟩ := h.fst
  unfold meetX
  rw [famAt_set hlX]
  by_cases hq : 0 = l.toNat
  ·rw [if_pos hq, ← hq, hz1]
   refine ⟨_, rfl, fun n hn => ?_⟩
   rw [meet_get (by rw [h.fin.bits 0 z hz1, hob]), Bool.and_eq_true] at hn
   exact hz2 n hn.1
  rw [if_neg hq]; exact ⟨z, hz1, hz2⟩
 ·have := h.le
  rw [Bool.or_eq_true] at hm
  rcases hm with hm | hm
  ·have := h.lt hm; omega
  have := hle.2.1 hm; omega
 rw [Bool.or_eq_false_iff] at hm
 rw [hle.2.2 hm.2]
 exact h.eq hm.1
theorem mk_nil (n : Nat) : (List.replicate n (([Value.slice none 0 0]).map T.v)).flatten = List.replicate n (T.v (.slice none 0 0)) := by
 induction n with
 | zero => rfl
 | succ n ih => rw [List.replicate_succ, List.flatten_cons, ih, List.replicate_succ]; rfl
theorem first_len {R W P : Nat} (h : P ≤ W) : (firstF R W P).length = W := by unfold firstF; simp; omega
section
variable {cx : Cx} {env : Env} {S : St} {ops : Array Oper} {l : List Oper} {code : Code} {K : Env → St → Prop} {Q : Exit → Env → St → Prop}
theorem AW.rowNils (e : TypeId) (k : Nat) : ∀ (m : Nat) {S : St}, AW cx code Q env (S ++ List.replicate m (.row none 0 0 e k [])) → AW cx code Q env S
 | 0, S, h => by simpa using h
 | m + 1, S, h => AW.rowNil e k (AW.rowNils e k m (by rw [List.append_assoc]; rw [List.replicate_succ] at h; exact h))
theorem AWL.putRow {F rows : St} {r : Ent} {L : Nat} (hL : L < rows.length) (h : AWL cx ops l K env (F ++ rows.set L r)) : AWL cx ops l K env (r :: (F ++ rows)) := by
 have e : rows.set L r = rows.take L ++ r :: rows.drop (L + 1) := by rw [List.set_eq_take_append_cons_drop, if_pos hL]
 have e2 : rows = rows.take L ++ rows[L] :: rows.drop (L + 1) := by rw [← List.drop_eq_getElem_cons hL, List.take_append_drop]
 rw [e] at h
 refine AWL.drop (S' := r :: (F ++ (rows.take L ++ rows.drop (L + 1)))) ?_ (AWL.perm ?_ h)
 ·refine List.Sublist.cons_cons _ (List.Sublist.append (List.Sublist.refl _) ?_)
  conv => rhs; rw [e2]
  exact List.Sublist.append (List.Sublist.refl _) (List.sublist_cons_self _ _)
 have h1 : (F ++ (rows.take L ++ r :: rows.drop (L + 1))) = (F ++ rows.take L) ++ r :: rows.drop (L + 1) := by simp
 rw [h1]
 refine List.perm_middle.trans (.of_eq ?_)
 simp
end
def bitW (bs : List Wd64) (n : Nat) : Bool := (bs.getD (n / 64) 0#64).getLsbD (n % 64)
def absB (bs : List Wd64) : List Bool := (List.range (64 * bs.length)).map (bitW bs)
theorem absB_len (bs : List Wd64) : (absB bs).length = 64 * bs.length := by unfold absB; simp
theorem absB_get (bs : List Wd64) (n : Nat) : (absB bs).getD n false = bitW bs n := by
 unfold absB
 simp only [List.getD_eq_getElem?_getD, List.getElem?_map]
 by_cases h : n < 64 * bs.length
 ·rw [List.getElem?_range h]; rfl
 rw [List.getElem?_eq_none (by simpa using h)]
 unfold bitW
 rw [List.getD_eq_getElem?_getD, List.getElem?_eq_none (by omega)]
 simp
theorem ext_bits {a b : List Bool} (hl : a.length = b.length) (h : ∀ n, n < a.length → a.getD n false = b.getD n false) : a = b := by
 apply List.ext_getElem hl
 intro n h1 h2
 have := h n h1
 simpa [h1, h2] using this
theorem has_bit (w : Wd64) {r : Nat} (hr : r < 64) : decide ((w >>> r) &&& 1#64 = 1#64) = w.getLsbD r := by
 have e : ((w >>> r) &&& 1#64) = if w.getLsbD r then 1#64 else 0#64 := by
  apply BitVec.eq_of_getLsbD_eq
  intro i hi
  rw [BitVec.getLsbD_and, BitVec.getLsbD_ushiftRight]
  by_cases h0 : i = 0
  ·subst h0
   cases h : w.getLsbD r <;> simp [h]
  ·have h1 : (1#64).getLsbD i = false := by
    rw [BitVec.getLsbD_one]; simp; omega
   rw [h1, Bool.and_false]
   split
   ·exact h1.symm
   ·simp
 rw [e]
 cases w.getLsbD r <;> decide
theorem bit_or (w : Wd64) {r q : Nat} (hr : r < 64) (hq : q < 64) : (w ||| (1#64 <<< r)).getLsbD q = (w.getLsbD q || decide (q = r)) := by
 rw [BitVec.getLsbD_or, BitVec.getLsbD_shiftLeft]
 by_cases h : q = r
 ·subst h; simp [hq]
 by_cases h2 : q < r
 ·simp [h, h2]
 have : (1#64).getLsbD (q - r) = false := by rw [BitVec.getLsbD_one]; simp; omega
 simp [h, this]
theorem bit_clr (w : Wd64) {r q : Nat} (hr : r < 64) (hq : q < 64) : (w &&& ~~~(1#64 <<< r)).getLsbD q = (w.getLsbD q && !decide (q = r)) := by
 rw [BitVec.getLsbD_and, BitVec.getLsbD_not, BitVec.getLsbD_shiftLeft]
 by_cases h : q = r
 ·subst h; simp [hq]
 by_cases h2 : q < r
 ·simp [h, h2, hq]
 have : (1#64).getLsbD (q - r) = false := by rw [BitVec.getLsbD_one]; simp; omega
 simp [h, this, hq]
def putW (bs : List Wd64) (n : Nat) : List Wd64 := bs.set (n / 64) (bs.getD (n / 64) 0#64 ||| (1#64 <<< (n % 64)))
def clrW (bs : List Wd64) (n : Nat) : List Wd64 := bs.set (n / 64) (bs.getD (n / 64) 0#64 &&& ~~~(1#64 <<< (n % 64)))
theorem getD_setW {l : List Wd64} {i n : Nat} {b : Wd64} (h : i < l.length) : (l.set i b).getD n 0#64 = if i = n then b else l.getD n 0#64 := by
 simp only [List.getD_eq_getElem?_getD, List.getElem?_set]
 by_cases e : i = n
 ·subst e; simp [h]
 simp [e]
theorem abs_put {bs : List Wd64} {n : Nat} (h : n < 64 * bs.length) : absB (putW bs n) = (absB bs).set n true := by
 refine ext_bits (by rw [absB_len, List.length_set, absB_len]; unfold putW; rw [List.length_set]) fun q hq => ?_
 have hq' : q < 64 * bs.length := by rw [absB_len] at hq; unfold putW at hq; rwa [List.length_set] at hq
 rw [absB_get, getD_set, absB_get, absB_len]
 unfold bitW putW
 rw [getD_setW (by omega)]
 by_cases e : n / 64 = q / 64
 ·rw [if_pos e, bit_or _ (Nat.mod_lt _ (by decide)) (Nat.mod_lt _ (by decide))]
  by_cases e2 : n = q
  ·subst e2; rw [if_pos ⟨rfl, h⟩]; simp
  rw [if_neg (fun x => e2 x.1), decide_eq_false (by omega), Bool.or_false, e]
 rw [if_neg e, if_neg (fun x => e (by rw [x.1]))]
theorem abs_clr {bs : List Wd64} {n : Nat} (h : n < 64 * bs.length) : absB (clrW bs n) = (absB bs).set n false := by
 refine ext_bits (by rw [absB_len, List.length_set, absB_len]; unfold clrW; rw [List.length_set]) fun q hq => ?_
 have hq' : q < 64 * bs.length := by rw [absB_len] at hq; unfold clrW at hq; rwa [List.length_set] at hq
 rw [absB_get, getD_set, absB_get, absB_len]
 unfold bitW clrW
 rw [getD_setW (by omega)]
 by_cases e : n / 64 = q / 64
 ·rw [if_pos e, bit_clr _ (Nat.mod_lt _ (by decide)) (Nat.mod_lt _ (by decide))]
  by_cases e2 : n = q
  ·subst e2; rw [if_pos ⟨rfl, h⟩]; simp
  rw [if_neg (fun x => e2 x.1), decide_eq_false (by omega), e]; simp
 rw [if_neg e, if_neg (fun x => e (by rw [x.1]))]
theorem putW_len (bs : List Wd64) (n : Nat) : (putW bs n).length = bs.length := by unfold putW; rw [List.length_set]
theorem clrW_len (bs : List Wd64) (n : Nat) : (clrW bs n).length = bs.length := by unfold clrW; rw [List.length_set]
def meetW (a b : List Wd64) : List Wd64 := List.zipWith (· &&& ·) a b
theorem meetW_len {a b : List Wd64} (h : a.length = b.length) : (meetW a b).length = a.length := by unfold meetW; rw [List.length_zipWith, h, Nat.min_self]
theorem meetW_get {a b : List Wd64} (h : a.length = b.length) (n : Nat) : (meetW a b).getD n 0#64 = a.getD n 0#64 &&& b.getD n 0#64 := by
 unfold meetW
 simp only [List.getD_eq_getElem?_getD, List.getElem?_zipWith]
 by_cases hn : n < a.length
 ·rw [List.getElem?_eq_getElem hn, List.getElem?_eq_getElem (by omega)]; rfl
 rw [List.getElem?_eq_none (by omega), List.getElem?_eq_none (by omega)]; simp
theorem abs_meet {a b : List Wd64} (h : a.length = b.length) : absB (meetW a b) = meetB (absB a) (absB b) := by
 have hl : (absB a).length = (absB b).length := by rw [absB_len, absB_len, h]
 refine ext_bits (by rw [absB_len, meetW_len h, meet_len hl, absB_len]) fun q hq => ?_
 rw [meet_get hl, absB_get, absB_get, absB_get]
 unfold bitW
 rw [meetW_get h, BitVec.getLsbD_and]
theorem abs_inj {a b : List Wd64} (hl : a.length = b.length) (h : absB a = absB b) : a = b := by
 apply List.ext_getElem hl
 intro n h1 h2
 apply BitVec.eq_of_getLsbD_eq
 intro i hi
 have : (absB a).getD (64 * n + i) false = (absB b).getD (64 * n + i) false := by rw [h]
 rw [absB_get, absB_get] at this
 unfold bitW at this
 rw [show (64 * n + i) / 64 = n by omega, show (64 * n + i) % 64 = i by omega] at this
 simpa [h1, h2] using this
def mixW (a b : List Wd64) (n : Nat) : List Wd64 := (meetW a b).take n ++ a.drop n
theorem mixW_0 (a b : List Wd64) : mixW a b 0 = a := rfl
theorem mixW_len {a b : List Wd64} (h : a.length = b.length) (n : Nat) : (mixW a b n).length = a.length := by
 unfold mixW
 rw [List.length_append, List.length_take, List.length_drop, meetW_len h]
 omega
theorem mixW_all {a b : List Wd64} (h : a.length = b.length) {n : Nat} (hn : a.length ≤ n) : mixW a b n = meetW a b := by
 unfold mixW
 rw [List.drop_of_length_le hn, List.append_nil, List.take_of_length_le (by rw [meetW_len h]; exact hn)]
theorem mixW_at {a b : List Wd64} (h : a.length = b.length) {n m : Nat} (hm : n ≤ m) : (mixW a b n).getD m 0#64 = a.getD m 0#64 := by
 unfold mixW
 simp only [List.getD_eq_getElem?_getD]
 by_cases hn : n ≤ a.length
 ·rw [List.getElem?_append_right (by rw [List.length_take, meetW_len h]; omega), List.length_take, meetW_len h, Nat.min_eq_left hn, List.getElem?_drop, show n + (m - n) = m by omega]
 rw [List.getElem?_eq_none (by rw [List.length_append, List.length_take, List.length_drop, meetW_len h]; omega), List.getElem?_eq_none (by omega)]
theorem mixW_succ {a b : List Wd64} (h : a.length = b.length) {n : Nat} (hn : n < a.length) : mixW a b (n + 1) = (mixW a b n).set n (a.getD n 0#64 &&& b.getD n 0#64) := by
 have hl : ((meetW a b).take n).length = n := by rw [List.length_take, meetW_len h]; omega
 unfold mixW
 rw [List.set_append_right _ _ (by omega), hl, Nat.sub_self, List.drop_eq_getElem_cons hn, List.set_cons_zero, List.take_succ_eq_append_getElem (by rw [meetW_len h]; exact hn), List.append_assoc]
 congr 1
 rw [List.singleton_append]
 congr 1
 have := meetW_get h n
 simp only [List.getD_eq_getElem?_getD, List.getElem?_eq_getElem (show n < (meetW a b).length by rw [meetW_len h]; exact hn), Option.getD_some] at this
 rw [this]
 simp only [List.getD_eq_getElem?_getD]
theorem set_sameW {l : List Wd64} {n : Nat} (h : n < l.length) : l.set n (l.getD n 0#64) = l := by simp [h]
theorem mixW_same {a b : List Wd64} (h : a.length = b.length) {n : Nat} (hn : n < a.length) (hb : a.getD n 0#64 &&& b.getD n 0#64 = a.getD n 0#64) : mixW a b (n + 1) = mixW a b n := by
 rw [mixW_succ h hn, hb, ← mixW_at h (Nat.le_refl n)]
 exact set_sameW (by rw [mixW_len h]; exact hn)
theorem mixW_turn {a b : List Wd64} (h : a.length = b.length) {n : Nat} (hn : n < a.length) (hb : ¬ a.getD n 0#64 &&& b.getD n 0#64 = a.getD n 0#64) : mixW a b (n + 1) ≠ a := fun e => by
 have h1 : (mixW a b (n + 1)).getD n 0#64 = a.getD n 0#64 := by rw [e]
 rw [mixW_succ h hn, getD_setW (by rw [mixW_len h]; exact hn), if_pos rfl] at h1
 exact hb h1
theorem word_at {l : List Wd64} {n : Nat} (h : n < l.length) : (l.map zw)[n * 1 + 0]? = some (zw (l.getD n 0#64)) := by
 rw [Nat.mul_one, Nat.add_zero, List.getElem?_map, List.getElem?_eq_getElem h]
 simp [h]
theorem len_words {l : List Wd64} : (l.map zw).length = l.length * 1 := by simp
theorem mk_zero (n : Nat) : (List.replicate n (([Value.int .u64 0]).map T.v)).flatten = (List.replicate n 0#64).map zw := by
 induction n with
 | zero => rfl
 | succ n ih => rw [List.replicate_succ, List.flatten_cons, ih, List.replicate_succ]; rfl
theorem abs_zero (n : Nat) : absB (List.replicate n 0#64) = List.replicate (64 * n) false := by
 refine ext_bits (by rw [absB_len]; simp) fun q hq => ?_
 rw [absB_get]
 unfold bitW
 simp only [List.getD_eq_getElem?_getD, List.getElem?_replicate]
 split <;> split <;> simp

theorem has61 (A : Option Addr) (n c : Nat) (bs : List Wd64) (r : Nat) (hn : bs.length = n) (hr : r < 64 * n) (hb : n ≤ 1048576) :
    ACalls Tryz.prog 101 [.v (.slice A n c), .v (.int .i64 (r : Int))] [.row A n c 29 1 ((bs).map zw)] (fun t S => t = bv (bitW bs r) ∧ S = [.row A n c 29 1 ((bs).map zw)]) := by
 refine ai Tryz.func101 Tryz.ntmps101 fun X w0 => ?_
 refine rs (y1 ?_)
 refine nl (rs (y2 ?_))
 refine Y1 (Yv.eqT (t' := .v (.int .i64 ((r / 64 : Nat) : Int))) (Yv.quoN_i64 rfl eV eV (fun hg => by omega)) rfl) ?_
 refine Y1 (ix (j := (r / 64)) (hj := fun hg => ⟨rfl, by omega⟩)) ?_
 refine Y1 (lw (hr := fun hg => word_at og)) ?_
 refine y1 ?_
 refine Y1 (Yv.eqT (t' := .v (.int .i64 ((r % 64 : Nat) : Int))) (Yv.remN rfl eV eV (fun hg => by omega)) rfl) ?_
 refine Y1 (Yv.shrW rfl (E rfl rfl) (E rfl rfl) (Nat.mod_lt r (by decide))) ?_
 refine Y1 (Yv.andW (b := 1#64) rfl eV eV) ?_
 refine Y1 (Yv.eqlW (b := 1#64) rfl eV eV) ?_
 refine y1 (nl ?_)
 refine rt ?_
 refine ⟨?_, rfl⟩
 show bv _ = bv _
 rw [has_bit _ (Nat.mod_lt r (by decide))]
 rfl

theorem put37 (A : Option Addr) (n c : Nat) (bs : List Wd64) (r : Nat) (hn : bs.length = n) (hr : r < 64 * n) (hb : n ≤ 1048576) :
    ACalls Tryz.prog 78 [.v (.slice A n c), .v (.int .i64 (r : Int))] [.row A n c 29 1 ((bs).map zw)] (fun t S => t = .tup [] ∧ S = [.row A n c 29 1 ((putW bs r).map zw)]) := by
 refine ai Tryz.func78 Tryz.ntmps78 fun X w0 => ?_
 refine AW.regionP rfl ?_
 refine phn 10 1 ?_
 refine q2 ?_
 refine Q1 (Yv.eqT (t' := .v (.int .i64 ((r / 64 : Nat) : Int))) (Yv.quoN_i64 rfl eV eV (fun hg => by omega)) rfl) ?_
 refine Q1 (ix (j := (r / 64)) (hj := fun hg => ⟨rfl, by omega⟩)) ?_
 refine Q1 (lw (hr := fun hg => word_at og)) ?_
 refine q1 ?_
 refine Q1 (Yv.eqT (t' := .v (.int .i64 ((r % 64 : Nat) : Int))) (Yv.remN rfl eV eV (fun hg => by omega)) rfl) ?_
 refine Q1 (Yv.shlW (a := 1#64) rfl (E rfl rfl) (E rfl rfl) (Nat.mod_lt r (by decide))) ?_
 refine Q1 (Yv.orW rfl eV eV) ?_
 refine Q1 (ix (j := (r / 64)) (hj := fun hg => ⟨rfl, by omega⟩)) ?_
 refine nq ?_
 refine op 10 ?_
 refine y1 (nl ?_)
 refine dn ?_
 refine retN .nil ?_
 refine ⟨rfl, ?_⟩
 unfold putW
 rw [← map_set, Nat.mul_one]
 rfl

theorem meet59 (A A2 : Option Addr) (n n2 c c2 : Nat) (bs bt : List Wd64) (hn : bs.length = n) (hn2 : bt.length = n2) (hnn : n = n2) (hb : n ≤ 1048576) :
    ACalls Tryz.prog 99 [.v (.slice A n c), .v (.slice A2 n2 c2)] [.row A n c 29 1 ((bs).map zw), .row A2 n2 c2 29 1 ((bt).map zw)] (fun t S => t = bv (!decide (meetW bs bt = bs)) ∧ S = [.row A n c 29 1 ((meetW bs bt).map zw), .row A2 n2 c2 29 1 ((bt).map zw)]) := by
 subst hnn
 have hl : bs.length = bt.length := by omega
 refine ai Tryz.func99 Tryz.ntmps99 fun X w0 => ?_
 refine rs (y1 ?_)
 refine nl (rs (y1 ?_))
 refine nl (sq (rs (y3 ?_)))
 refine nl (bk ?_)
 refine AW.loop (fun (j : Nat) => [(0, true, .v (.slice A n c)), (1, true, .v (.slice A2 n c2)), (5, true, bv (!decide (mixW bs bt j = bs))), (9, true, zv n), (10, true, zv j)]) (fun (j : Nat) => [.row A n c 29 1 ((mixW bs bt j).map zw), .row A2 n c2 29 1 ((bt).map zw)]) (fun (j : Nat) => j ≤ n) (fun (j : Nat) => n - j) 0 ?_ ?_ ?_ ?_
 ·exact Nat.zero_le _
 ·exact (su (su (Sub.cons rfl (by rw [mixW_0]; simp; rfl) sbZ)))
 ·rfl
 intro j hinv
 refine rs (y1 ?_)
 refine nl (sq ?_)
 refine cq (fun _ => ?_) fun _ => ?_
 ·have hj2 : j < bs.length := by omega
  refine sp (sq (bk (rs (y2 ?_))))
  refine nl (rq (q3 ?_))
  refine Q1 (lw (hr := fun hg => word_at (by rw [mixW_len hl]; omega))) ?_
  refine q3 ?_
  refine Q1 (lw (hr := fun hg => word_at og)) ?_
  refine Q1 (Yv.andW rfl eV eV) ?_
  refine q1 ?_
  refine nq (rs (y4 ?_))
  refine Y1 (lw (hr := fun hg => word_at (by rw [mixW_len hl]; omega))) ?_
  refine Y1 (Yv.neqW rfl eV eV) (nl ?_)
  refine cq (fun h1t => ?_) fun h1f => ?_
  ·have h1t : ¬ bs.getD j 0#64 &&& bt.getD j 0#64 = bs.getD j 0#64 := by
    rw [mixW_at hl (Nat.le_refl j)] at h1t
    simpa using h1t
   refine rg (y4 ?_)
   refine AWL.storeEp1 (i := 0) rfl rfl rfl ag_29 rfl (E rfl rfl) (E rfl rfl) rfl rfl (by rw [List.length_map, mixW_len hl]; omega) ?_
   refine y1 ?_
   refine nl (rg (y2 (nl ?_)))
   refine ⟨j + 1, by omega, by omega, (su (su (Sub.cons rfl (by rw [decide_eq_false (mixW_turn hl hj2 h1t)]; rfl) sbZ))), ?_⟩
   rw [mixW_succ hl hj2, ← map_set, Nat.mul_one, ← mixW_at hl (Nat.le_refl j)]
   rfl
  have h1f : bs.getD j 0#64 &&& bt.getD j 0#64 = bs.getD j 0#64 := by
   rw [mixW_at hl (Nat.le_refl j)] at h1f
   simpa using h1f
  refine sp (rg (y2 (nl ?_)))
  refine ⟨j + 1, by omega, by omega, (su (su (Sub.cons rfl (by rw [mixW_same hl hj2 h1f]) sbZ))), by rw [mixW_same hl hj2 h1f]⟩
 have hjn : bs.length ≤ j := by omega
 refine xt (rs (y2 (nl ?_)))
 refine rt ?_
 refine ⟨?_, ?_⟩
 ·show bv _ = bv _
  rw [mixW_all hl hjn]
 rw [mixW_all hl hjn]

theorem stepfn60 (b7 b6 : Nat) (A : Option Addr) (n c : Nat) (bs : List Wd64) (fine : Bool) (r : Int) (h0 : 0 ≤ r) (hn : bs.length = n) (hr : r < 64 * n) (hb : n ≤ 1048576) :
    ACalls Tryz.prog 100 [zi r, pv b7, pv b6] [.row A n c 29 1 ((bs).map zw), .box b7 4 [bv (fine)], .box b6 160 [.v (.slice A n c)]] (fun t S => t = .tup [] ∧ S = [.row A n c 29 1 ((bs).map zw), .box b7 4 [bv (fine && bitW bs r.toNat)], .box b6 160 [.v (.slice A n c)]]) := by
 obtain ⟨q, rfl⟩ := Int.eq_ofNat_of_zero_le h0
 refine ai Tryz.func100 Tryz.ntmps100 fun X w0 => ?_
 refine rg (y4 ?_)
 refine AWL.callKgT rfl rfl rfl rfl (B rfl) rfl ce_101 (E rfl rfl) (evsC (Eg rfl rfl id) (evsC (Eg rfl rfl id) evs0)) (S1 := [.row A n c 29 1 ((bs).map zw)]) (S2 := _) rfl (fun hg => has61 A n c bs q hn (by omega) hb) (fun t S h => h) ?_
 refine y2 (nl ?_)
 refine retN .nil ?_
 exact ⟨rfl, rfl⟩

theorem reads49S (p : Prog) (f : Fn) (many : LM) (i : Ins) (b7 b6 : Nat) (A : Option Addr) (n c : Nat) (bs : List Wd64) (fine : Bool) (hi : InsOk p f many i) (ha : i.args.length ≤ 1048576) (hn : bs.length = n) (hr : f.regs ≤ 64 * n) (hb : n ≤ 1048576) :
    ACalls Tryz.prog 61 [.agg (insCells i), .v (.func (.func 100) #[] #[.pointer (sg b7), .pointer (sg b6)])] [.row A n c 29 1 ((bs).map zw), .box b7 4 [bv (fine)], .box b6 160 [.v (.slice A n c)]] (fun t S => t = .tup [] ∧ S = [.row A n c 29 1 ((bs).map zw), .box b7 4 [bv (fine && (readsF i).all fun r => bitW bs r.toNat)], .box b6 160 [.v (.slice A n c)]]) := by
 refine lsr (R := (fun t S => t = .tup [] ∧ ([.row A n c 29 1 ((bs).map zw), .box b7 4 [bv (fine && (readsF i).all fun r => bitW bs r.toNat)], .box b6 160 [.v (.slice A n c)]] : St).Sublist S)) (fun t S' ⟨h1, h2⟩ => ⟨_, h2, h1, rfl⟩) ?_
 refine ai Tryz.func61 Tryz.ntmps61 fun X w0 => ?_
 refine rs ?_
 refine bx fun b2 => ?_
 refine nl (rs (y2 ?_))
 refine kt (fields57 i.kind) ?_
 rintro t11 S11 rfl
 refine y3 ?_
 refine bx fun b4 => ?_
 refine y2 (nl ?_)
 refine AW.eqS (S' := [.row A n c 29 1 ((bs).map zw), .box b7 4 [bv (fine)], .box b6 160 [.v (.slice A n c)], .box b2 90 (insCells i), .box b4 143 (hasCells (hasF i.kind))]) rfl ?_
 refine AW.mid (α := Unit) (fun _ => [(1, true, .v (.func (.func 100) #[] #[.pointer (sg b7), .pointer (sg b6)])), (2, true, pv b2), (4, true, pv b4)]) (fun _ => [.row A n c 29 1 ((bs).map zw), .box b7 4 [bv (fine && (rd1 i).all fun r => bitW bs r.toNat)], .box b6 160 [.v (.slice A n c)], .box b2 90 (insCells i), .box b4 143 (hasCells (hasF i.kind))]) (fun _ => True) ?_ ?_
 ·refine rs (y2 (nl ?_))
  refine cq (fun h0t => ?_) fun h0f => ?_
  ·refine rg (y3 ?_)
   refine kc (stepfn60 b7 b6 A n c bs (fine) i.a (hi.a h0t).1 hn (by have := (hi.a h0t).2; omega) hb) ?_
   rintro t19 S19 ⟨rfl, rfl⟩
   refine nl ?_
   refine ⟨(), trivial, sbZ, ?_⟩
   rw [rd1_t h0t]
   simp [List.all_append, Bool.and_assoc]
  refine sp ?_
  refine ⟨(), trivial, sbZ, ?_⟩
  rw [rd1_f h0f]
  simp
 rintro _ hmid
 refine AW.mid (α := Unit) (fun _ => [(1, true, .v (.func (.func 100) #[] #[.pointer (sg b7), .pointer (sg b6)])), (2, true, pv b2), (4, true, pv b4)]) (fun _ => [.row A n c 29 1 ((bs).map zw), .box b7 4 [bv (fine && (rd2 i).all fun r => bitW bs r.toNat)], .box b6 160 [.v (.slice A n c)], .box b2 90 (insCells i), .box b4 143 (hasCells (hasF i.kind))]) (fun _ => True) ?_ ?_
 ·refine rs (y2 (nl ?_))
  refine cq (fun h1t => ?_) fun h1f => ?_
  ·refine rg (y3 ?_)
   refine kc (stepfn60 b7 b6 A n c bs (fine && (rd1 i).all fun r => bitW bs r.toNat) i.b (hi.b h1t).1 hn (by have := (hi.b h1t).2; omega) hb) ?_
   rintro t25 S25 ⟨rfl, rfl⟩
   refine nl ?_
   refine ⟨(), trivial, sbZ, ?_⟩
   rw [rd2_t h1t]
   simp [List.all_append, Bool.and_assoc]
  refine sp ?_
  refine ⟨(), trivial, sbZ, ?_⟩
  rw [rd2_f h1f]
 rintro _ hmid
 refine rs (y2 (nl ?_))
 refine cq (fun h2t => ?_) fun h2f => ?_
 ·refine rs (y4 ?_)
  refine nl (bk ?_)
  refine AW.loop (fun (j : Nat) => [(1, true, .v (.func (.func 100) #[] #[.pointer (sg b7), .pointer (sg b6)])), (2, true, pv b2), (4, true, pv b4), (29, true, .sl 1 (i.args.map zi)), (30, true, .v (.int .i64 (i.args.length : Int))), (31, true, zv j)]) (fun (j : Nat) => [.row A n c 29 1 ((bs).map zw), .box b7 4 [bv (fine && (rd2 i ++ i.args.take j).all fun r => bitW bs r.toNat)], .box b6 160 [.v (.slice A n c)], .box b2 90 (insCells i), .box b4 143 (hasCells (hasF i.kind))]) (fun (j : Nat) => j ≤ i.args.length) (fun (j : Nat) => i.args.length - j) 0 ?_ ?_ ?_ ?_
  ·exact Nat.zero_le _
  ·exact sbZ
  ·rw [List.take_zero, List.append_nil]
  intro j hinv
  refine rs (y1 ?_)
  refine nl (sq ?_)
  refine cq (fun _ => ?_) fun _ => ?_
  ·have hj2 : j < i.args.length := by omega
   refine sp (sq (bk (rs (y3 ?_))))
   refine nl (rg (y2 ?_))
   refine kc (stepfn60 b7 b6 A n c bs (fine && (rd2 i ++ i.args.take j).all fun r => bitW bs r.toNat) (i.args.getD j default) ((hi.args h2t).1 _ (getD_mem hj2)).1 hn (by have := ((hi.args h2t).1 _ (getD_mem hj2)).2; omega) hb) ?_
   rintro t37 S37 ⟨rfl, rfl⟩
   refine nl (rg (y2 (nl ?_)))
   refine ⟨j + 1, by omega, by omega, sbZ, ?_⟩
   rw [take_gd hj2]
   simp [List.all_append, Bool.and_assoc]
  obtain rfl : j = i.args.length := by omega
  rw [List.take_length, ← rd3_t h2t]
  refine xt ?_
  refine retN .nil ?_
  exact ⟨rfl, by simp⟩
 refine sp ?_
 refine retN .nil ?_
 rw [← rd3_f h2f]
 exact ⟨rfl, by simp⟩

structure Sw where
 A : Option Addr
 c : Nat
 v : Option (List Wd64)
 deriving Inhabited
def Sw.ws (s : Sw) : List Wd64 := s.v.getD []
def swCell (s : Sw) : T := .v (.slice s.A s.ws.length s.c)
def swRow (s : Sw) : Ent := .row s.A s.ws.length s.c 29 1 (s.ws.map zw)
def swOk (s : Sw) : Prop := s.A.isSome = s.v.isSome
def famW (l : List Sw) : Fam := l.map fun s => s.v.map absB
theorem fam_atW {l : List Sw} {k : Nat} (h : k < l.length) : famAt (famW l) k = (l.getD k default).v.map absB := by
 unfold famAt famW
 rw [gd h]
 simp [h]
theorem sw_row {l : List Sw} {k : Nat} (h : k < l.length) : (l.map swRow)[k]? = some (swRow (l.getD k default)) := by
 rw [List.getElem?_map, List.getElem?_eq_getElem h, gd h]; rfl
theorem sw_cell {l : List Sw} {k : Nat} (h : k < l.length) : (l.map swCell)[k * 1 + 0]? = some (swCell (l.getD k default)) := by
 rw [Nat.mul_one, Nat.add_zero, List.getElem?_map, List.getElem?_eq_getElem h, gd h]; rfl
theorem sw_none {s : Sw} (h : swOk s) (hA : s.A.isNone = true) : s.v = none := by
 unfold swOk at h
 cases hv : s.v with
 | none => rfl
 | some a => rw [hv, Option.isNone_iff_eq_none.1 hA] at h; cases h
theorem sw_some {s : Sw} (h : swOk s) (hA : s.A.isNone = false) : s.v = some s.ws := by
 unfold swOk at h
 unfold Sw.ws
 cases hv : s.v with
 | some a => rfl
 | none =>
  rw [hv] at h
  cases hA2 : s.A with
  | none => rw [hA2] at hA; cases hA
  | some x => rw [hA2] at h; cases h
structure FS where
 sls : List Sw
 todo : List Nat
 tA : Option Addr
 tc : Nat
 deriving Inhabited
def zn (k : Nat) : T := .v (.int .i64 (k : Int))
def flCells (f : Fn) (m : Nat) (aA : Option Addr) (n : Nat) (fs : FS) : List T := fnCells f ++ [.v (.map (some m)), .v (.slice aA n n), .v (.slice fs.tA fs.todo.length fs.tc)]
def FSt (bw : Nat) (f : Fn) (m : Nat) (aA : Option Addr) (n : Nat) (fs : FS) : St := .box bw 159 (flCells f m aA n fs) :: .row aA n n 160 1 (fs.sls.map swCell) :: .row fs.tA fs.todo.length fs.tc 3 1 (fs.todo.map zn) :: fs.sls.map swRow
structure FOk (n K : Nat) (fs : FS) : Prop where
 len : fs.sls.length = n
 ok : ∀ s ∈ fs.sls, swOk s
 lenK : ∀ s ∈ fs.sls, ∀ ws, s.v = some ws → ws.length = K
structure ToR (n K : Nat) (fs : FS) (k : Nat) (out : List Bool) (fs' : FS) : Prop where
 ok : FOk n K fs'
 fam : famW fs'.sls = meetX (famW fs.sls) k out
 todo : fs'.todo = if chg (famW fs.sls) k out = true then fs.todo ++ [k] else fs.todo
theorem FOk.set {n K k : Nat} {fs : FS} {A : Option Addr} {c : Nat} {ws : List Wd64} {todo : List Nat} {tA : Option Addr} {tc : Nat} (h : FOk n K fs) (hA : A.isSome = true) (hl : ws.length = K) : FOk n K ⟨fs.sls.set k ⟨A, c, some ws⟩, todo, tA, tc⟩ :=
 ⟨by show (fs.sls.set _ _).length = n; rw [List.length_set]; exact h.len, fun s hs => by
  rcases List.mem_or_eq_of_mem_set hs with hs | rfl
  ·exact h.ok s hs
  ·exact hA, fun s hs ws' e => by
  rcases List.mem_or_eq_of_mem_set hs with hs | rfl
  ·exact h.lenK s hs ws' e
  ·simp only [Option.some.injEq] at e
   rw [← e]; exact hl⟩
theorem to_nil {n K k : Nat} {fs : FS} {A : Option Addr} {c : Nat} {ws : List Wd64} {tA : Option Addr} {tc : Nat} (h : FOk n K fs) (hk : k < fs.sls.length) (hv : (fs.sls.getD k default).v = none) (hA : A.isSome = true) (hl : ws.length = K) :
    ToR n K fs k (absB ws) ⟨fs.sls.set k ⟨A, c, some ws⟩, fs.todo ++ [k], tA, tc⟩ := by
 refine ⟨h.set hA hl, ?_, ?_⟩
 ·unfold meetX
  rw [fam_atW hk, hv]
  unfold famW
  rw [List.map_set]
  rfl
 unfold chg
 rw [fam_atW hk, hv]
 rfl
theorem to_some {n K k : Nat} {fs : FS} {wk ws : List Wd64} {todo : List Nat} {tA : Option Addr} {tc : Nat} (h : FOk n K fs) (hk : k < fs.sls.length) (hv : (fs.sls.getD k default).v = some wk) (hl : ws.length = K) (ht : todo = if (!decide (meetW wk ws = wk)) = true then fs.todo ++ [k] else fs.todo) :
    ToR n K fs k (absB ws) ⟨fs.sls.set k ⟨(fs.sls.getD k default).A, (fs.sls.getD k default).c, some (meetW wk ws)⟩, todo, tA, tc⟩ := by
 have hwk := h.lenK _ (getD_mem hk) wk hv
 have hA := h.ok _ (getD_mem hk)
 unfold swOk at hA
 rw [hv] at hA
 have he : wk.length = ws.length := by omega
 refine ⟨h.set hA (by rw [meetW_len he]; exact hwk), ?_, ?_⟩
 ·unfold meetX
  rw [fam_atW hk, hv]
  unfold famW
  rw [List.map_set]
  show List.set _ _ (some (absB (meetW wk ws))) = _
  rw [abs_meet he]
  rfl
 show todo = _
 rw [ht]
 unfold chg
 rw [fam_atW hk, hv]
 have e : decide (meetB (absB wk) (absB ws) = absB wk) = decide (meetW wk ws = wk) := by
  apply decide_eq_decide.2
  rw [← abs_meet he]
  exact ⟨fun q => abs_inj (meetW_len he) q, fun q => by rw [q]⟩
 show _ = if (!decide (meetB (absB wk) (absB ws) = absB wk)) = true then _ else _
 rw [e]
theorem sw_rows {sls : List Sw} {k n : Nat} {A : Option Addr} {c : Nat} {x : List Wd64} (hx : x.length = n) : (sls.set k ⟨A, c, some x⟩).map swRow = (sls.map swRow).set k (.row A n c 29 1 (x.map zw)) := by
 rw [List.map_set]
 subst hx
 rfl
theorem sw_cells {sls : List Sw} {k : Nat} {x : List Wd64} (hk : k < sls.length) (hx : x.length = (sls.getD k default).ws.length) : (sls.set k ⟨(sls.getD k default).A, (sls.getD k default).c, some x⟩).map swCell = sls.map swCell := by
 rw [List.map_set]
 have e : swCell ⟨(sls.getD k default).A, (sls.getD k default).c, some x⟩ = swCell (sls.getD k default) := by
  unfold swCell
  show T.v (.slice _ x.length _) = _
  rw [hx]
 rw [e, gd hk]
 have : (sls.map swCell)[k]? = some (swCell sls[k]) := by rw [List.getElem?_map, List.getElem?_eq_getElem hk]; rfl
 obtain ⟨h1, h2⟩ := List.getElem?_eq_some_iff.1 this
 rw [← h2, List.set_getElem_self]
theorem sw_cell_set {sls : List Sw} {k n : Nat} {A : Option Addr} {c : Nat} {x : List Wd64} (hx : x.length = n) : (sls.set k ⟨A, c, some x⟩).map swCell = (sls.map swCell).set k (.v (.slice A n c)) := by
 rw [List.map_set]
 subst hx
 rfl
def Tos (n K : Nat) (out : List Bool) : List Nat → FS → FS → Prop
 | [], fs, fs' => fs' = fs
 | k :: r, fs, fs' => ∃ fs1, ToR n K fs k out fs1 ∧ Tos n K out r fs1 fs'
theorem Tos.app {n K : Nat} {out : List Bool} : ∀ {l l' : List Nat} {fs fs1 fs2 : FS}, Tos n K out l fs fs1 → Tos n K out l' fs1 fs2 → Tos n K out (l ++ l') fs fs2
 | [], _, _, _, _, h, h' => by rw [show _ = _ from h] at h'; exact h'
 | _ :: _, _, _, _, _, ⟨x, h1, h2⟩, h' => ⟨x, h1, Tos.app h2 h'⟩
theorem readOk_abs {R : Nat} {i : Ins} {ws : List Wd64} : readOkB R i (absB ws) = (((readsF i).all fun r => bitW ws r.toNat) && (!decide (i.kind = 31) || bitW ws (R + i.imm.toNat))) := by
 unfold readOkB
 rw [absB_get]
 congr 1
 congr 1
 funext r
 rw [absB_get]
def clrTo (ws : List Wd64) (j : Nat) : List Wd64 := (List.range j).foldl clrW ws
theorem clrTo_succ (ws : List Wd64) (j : Nat) : clrTo ws (j + 1) = clrW (clrTo ws j) j := by
 unfold clrTo
 rw [List.range_succ, List.foldl_append]
 rfl
theorem clrTo_len (ws : List Wd64) : ∀ j, (clrTo ws j).length = ws.length
 | 0 => rfl
 | j + 1 => by rw [clrTo_succ, clrW_len, clrTo_len ws j]
theorem clrTo_abs {ws : List Wd64} : ∀ {j : Nat}, j ≤ 64 * ws.length → absB (clrTo ws j) = List.replicate j false ++ (absB ws).drop j
 | 0, _ => rfl
 | j + 1, h => by
  rw [clrTo_succ, abs_clr (by rw [clrTo_len]; omega), clrTo_abs (by omega), rep_set (regs := 64 * ws.length) (by omega) (by rw [absB_len]; exact Nat.le_refl _)]
def wb1 (R : Nat) (i : Ins) (ws : List Wd64) : List Wd64 := if i.kind = 22 ∨ i.kind = 23 then clrTo ws R else ws
def wb2 (R : Nat) (i : Ins) (ws : List Wd64) : List Wd64 := if (hasF i.kind).d = true then putW (wb1 R i ws) i.d.toNat else wb1 R i ws
def wb3 (R : Nat) (i : Ins) (ws : List Wd64) : List Wd64 := if i.kind = 32 then putW (wb2 R i ws) (R + i.imm.toNat) else wb2 R i ws
theorem wb1_len {R : Nat} {i : Ins} {ws : List Wd64} : (wb1 R i ws).length = ws.length := by
 unfold wb1
 split
 ·exact clrTo_len ws R
 rfl
theorem wb2_len {R : Nat} {i : Ins} {ws : List Wd64} : (wb2 R i ws).length = ws.length := by
 unfold wb2
 split
 ·rw [putW_len, wb1_len]
 exact wb1_len
theorem wb3_len {R : Nat} {i : Ins} {ws : List Wd64} : (wb3 R i ws).length = ws.length := by
 unfold wb3
 split
 ·rw [putW_len, wb2_len]
 exact wb2_len
theorem wb3_abs {p : Prog} {f : Fn} {many : LM} {R : Nat} {i : Ins} {ws : List Wd64} (hR : f.regs = (R : Int)) (hi : InsOk p f many i) (hW : f.regs + f.slots ≤ 64 * ws.length) (hs : 0 ≤ f.slots) : absB (wb3 R i ws) = behindF R i (absB ws) := by
 have h1 : absB (wb1 R i ws) = bh1 R i (absB ws) := by
  unfold wb1 bh1
  split
  ·exact clrTo_abs (by omega)
  ·rfl
 have h2 : absB (wb2 R i ws) = bh2 R i (absB ws) := by
  unfold wb2 bh2
  split
  ·rename_i hd
   have := hi.d hd
   rw [abs_put (by rw [wb1_len]; omega), h1]
  ·exact h1
 unfold wb3 behindF
 split
 ·rename_i hk
  have := hi.slot (.inr hk)
  rw [abs_put (by rw [wb2_len]; omega), h2]
 exact h2
def SF (f : Fn) (W : Nat) : Prop := ∃ Y, Sol f f.regs.toNat W Y ∧ ReadsOk f f.regs.toNat Y
def rsz (W : Nat) (a : List Bool) : List Bool := (List.range W).map fun n => a.getD n false
theorem rsz_len (W : Nat) (a : List Bool) : (rsz W a).length = W := by unfold rsz; simp
theorem rsz_get {W : Nat} {a : List Bool} {n : Nat} (h : n < W) : (rsz W a).getD n false = a.getD n false := by
 unfold rsz
 simp [h]
theorem rsz_out {W : Nat} {a : List Bool} {n : Nat} (h : ¬ n < W) : (rsz W a).getD n false = false := by
 unfold rsz
 simp [h]
theorem behind_get {R : Nat} {i : Ins} {a : List Bool} {n : Nat} (hR : R ≤ a.length) : (behindF R i a).getD n false =
    if i.kind = 32 ∧ R + i.imm.toNat = n ∧ n < a.length then true else if (hasF i.kind).d = true ∧ i.d.toNat = n ∧ n < a.length then true else if (i.kind = 22 ∨ i.kind = 23) ∧ n < R then false else a.getD n false := by
 have h1 : (bh1 R i a).getD n false = if (i.kind = 22 ∨ i.kind = 23) ∧ n < R then false else a.getD n false := by
  unfold bh1
  split
  ·rename_i h
   rw [getD_rep hR]
   by_cases hn : n < R
   ·rw [if_pos hn, if_pos ⟨h, hn⟩]
   ·rw [if_neg hn, if_neg (fun q => hn q.2)]
  ·rename_i h; rw [if_neg (fun q => h q.1)]
 have h2 : (bh2 R i a).getD n false = if (hasF i.kind).d = true ∧ i.d.toNat = n ∧ n < a.length then true else if (i.kind = 22 ∨ i.kind = 23) ∧ n < R then false else a.getD n false := by
  unfold bh2
  split
  ·rename_i h
   rw [getD_set, bh1_len hR, h1]
   by_cases e : i.d.toNat = n ∧ i.d.toNat < a.length
   ·rw [if_pos e, if_pos ⟨h, e.1, by omega⟩]
   ·rw [if_neg e, if_neg (show ¬ ((hasF i.kind).d = true ∧ i.d.toNat = n ∧ n < a.length) from fun q => e ⟨q.2.1, by omega⟩)]
  ·rename_i h; rw [if_neg (show ¬ ((hasF i.kind).d = true ∧ i.d.toNat = n ∧ n < a.length) from fun q => h q.1), h1]
 unfold behindF
 split
 ·rename_i h
  rw [getD_set, bh2_len hR, h2]
  by_cases e : R + i.imm.toNat = n ∧ R + i.imm.toNat < a.length
  ·rw [if_pos e, if_pos ⟨h, e.1, by omega⟩]
  rw [if_neg e, if_neg (show ¬ (i.kind = 32 ∧ R + i.imm.toNat = n ∧ n < a.length) from fun q => e ⟨q.2.1, by omega⟩)]
 rename_i h; rw [if_neg (show ¬ (i.kind = 32 ∧ R + i.imm.toNat = n ∧ n < a.length) from fun q => h q.1), h2]
theorem first_get {R W P n : Nat} : (firstF R W P).getD n false = decide (n < P) := by
 unfold firstF
 simp only [List.getD_eq_getElem?_getD]
 by_cases h : n < P
 ·rw [List.getElem?_append_left (by simpa using h)]; simp [h]
 rw [List.getElem?_append_right (by simp; omega), List.getElem?_replicate]
 split <;> simp [h]
theorem fam_map {Y : Fam} {g : List Bool → List Bool} {k : Nat} : famAt (Y.map (Option.map g)) k = (famAt Y k).map g := by
 unfold famAt
 simp only [List.getD_eq_getElem?_getD, List.getElem?_map]
 cases Y[k]? <;> rfl
theorem SF_resize {p : Prog} {f : Fn} (hf : FnOk p f) {W1 W2 : Nat} (h1 : f.regs.toNat + f.slots.toNat ≤ W1) (h2 : f.regs.toNat + f.slots.toNat ≤ W2) (h : SF f W1) : SF f W2 := by
 obtain ⟨Y, hY, hr⟩ := h
 have hp2 := hf.par2
 have hp0 := hf.par0
 have hs0 := hf.slot0
 refine ⟨Y.map (Option.map (rsz W2)), ⟨by rw [List.length_map, hY.len], fun k a ha => ?_, ?_, fun k a hk ha l hl => ?_⟩, fun k a hk ha => ?_⟩
 ·rw [fam_map] at ha
  cases hy : famAt Y k with
  | none => rw [hy] at ha; cases ha
  | some b => rw [hy] at ha; simp only [Option.map_some, Option.some.injEq] at ha; rw [← ha, rsz_len]
 ·obtain ⟨a, ha, hle⟩ := hY.first
  refine ⟨rsz W2 a, by rw [fam_map, ha]; rfl, fun n hn => ?_⟩
  by_cases hw : n < W2
  ·rw [rsz_get hw] at hn
   have := hle n hn
   rw [first_get] at this ⊢
   exact this
  rw [rsz_out hw] at hn; cases hn
 ·rw [fam_map] at ha
  cases hy : famAt Y k with
  | none => rw [hy] at ha; cases ha
  | some b =>
   rw [hy] at ha
   simp only [Option.map_some, Option.some.injEq] at ha
   subst ha
   have hb := hY.bits k b hy
   have hst := hY.step k b hk hy l hl
   rw [fam_map]
   cases hz : famAt Y l.toNat with
   | none => rw [hz] at hst; exact absurd hst id
   | some z =>
    rw [hz] at hst
    intro n hn
    by_cases hw : n < W2
    ·rw [rsz_get hw] at hn
     have := hst n hn
     have hi := hf.ins _ (getD_mem hk)
     rw [behind_get (by omega)] at this
     rw [behind_get (by rw [rsz_len]; omega), rsz_len, rsz_get hw]
     by_cases c1 : (f.code.getD k default).kind = 32 ∧ f.regs.toNat + (f.code.getD k default).imm.toNat = n ∧ n < b.length
     ·rw [if_pos ⟨c1.1, c1.2.1, hw⟩]
     ·rw [if_neg c1] at this
      by_cases c2 : (hasF (f.code.getD k default).kind).d = true ∧ (f.code.getD k default).d.toNat = n ∧ n < b.length
      ·split
       ·rfl
       ·rw [if_pos ⟨c2.1, c2.2.1, hw⟩]
      ·rw [if_neg c2] at this
       split
       ·rfl
       split
       ·rfl
       exact this
    ·rw [rsz_out hw] at hn; cases hn
 rw [fam_map] at ha
 cases hy : famAt Y k with
 | none => rw [hy] at ha; cases ha
 | some b =>
  rw [hy] at ha
  simp only [Option.map_some, Option.some.injEq] at ha
  subst ha
  have hb := hr k b hk hy
  have hi := hf.ins _ (getD_mem hk)
  unfold readOkB at hb ⊢
  rw [Bool.and_eq_true, List.all_eq_true, Bool.or_eq_true] at hb ⊢
  refine ⟨fun r hr' => ?_, ?_⟩
  ·have := reads_in hi r hr'
   rw [rsz_get (by omega)]
   exact hb.1 r hr'
  ·rcases hb.2 with q | q
   ·exact .inl q
   ·by_cases h31 : (f.code.getD k default).kind = 31
    ·have := hi.slot (.inl h31)
     rw [rsz_get (by omega)]
     exact .inr q
    ·left; rw [decide_eq_false h31]; rfl
theorem strictF_at {p : Prog} {f : Fn} (hf : FnOk p f) {W : Nat} (h : f.regs.toNat + f.slots.toNat ≤ W) : StrictF f ↔ SF f W := ⟨fun q => SF_resize hf (Nat.le_refl _) h q, fun q => SF_resize hf h (Nat.le_refl _) q⟩
theorem perm_back {α : Type} {F B : List α} {r : α} {q : Nat} (hq : q < B.length) : (r :: (F ++ (B.take q ++ B.drop (q + 1)))).Perm (F ++ B.set q r) := by
 rw [List.set_eq_take_append_cons_drop, if_pos hq]
 have e : F ++ (B.take q ++ r :: B.drop (q + 1)) = (F ++ B.take q) ++ r :: B.drop (q + 1) := by simp
 rw [e]
 refine (List.perm_middle.trans (.of_eq ?_)).symm
 simp
theorem perm_outF {α : Type} {F B : List α} {f : α} {q : Nat} (hq : B[q]? = some f) : (F ++ B).Perm (f :: (F ++ (B.take q ++ B.drop (q + 1)))) := by
 obtain ⟨hl, rfl⟩ := List.getElem?_eq_some_iff.1 hq
 have e : F ++ B = (F ++ B.take q) ++ B[q] :: B.drop (q + 1) := by
  conv => lhs; rw [← List.take_append_drop q B, List.drop_eq_getElem_cons hl]
  simp [List.append_assoc]
 rw [e]
 refine List.perm_middle.trans (.of_eq ?_)
 simp [List.append_assoc]
def StrictP (p : Prog) : Prop := checkR p = 0 ∧ ∀ f ∈ p.funs, StrictF f

theorem to38 (bw : Nat) (f : Fn) (m : Nat) (aA : Option Addr) (n K : Nat) (fs : FS) (k : Nat) (As : Option Addr) (cs : Nat) (ws : List Wd64) (h : FOk n K fs) (hk : k < n) (hn : n ≤ 1048576) (hK : K ≤ 1048576) (hw : ws.length = K) (ht : fs.todo.length ≤ 4398046511104) :
    ACalls Tryz.prog 79 [pv bw, zn k, .v (.slice As K cs)] (.row As K cs 29 1 ((ws).map zw) :: FSt bw f m aA n fs) (fun t S => t = .tup [] ∧ ∃ fs', ToR n K fs k (absB ws) fs' ∧ S = .row As K cs 29 1 ((ws).map zw) :: FSt bw f m aA n fs') := by
 have hkl : k < fs.sls.length := by rw [h.len]; exact hk
 refine ai Tryz.func79 Tryz.ntmps79 fun X w0 => ?_
 refine rs (y6 ?_)
 refine Y1 (lw (hr := fun hg => sw_cell (by first | omega | assumption))) ?_
 refine Y1 (Yv.eqNilV rfl so_160 eV) (nl ?_)
 refine cq (fun h0t => ?_) fun h0f => ?_
 ·have hv := sw_none (h.ok _ (getD_mem hkl)) h0t
  refine AW.rseqP rfl ?_
  refine tp 0 ?_
  refine tp 1 ?_
  refine tp 2 ?_
  refine tp 4 ?_
  refine tp 6 ?_
  refine wp2 3 5 ?_ ?_
  ·refine y1 (nl ?_)
   refine op 5 ?_
   refine AWL.buildSliceRowS rfl rfl (B rfl) rfl el_160 (B rfl) rfl evs0 nB rfl rfl (fun A19 hA19 => ?_)
   refine nl ?_
   refine op 7 ?_
   refine AWL.perm (List.perm_append_singleton _ _).symm ?_
   refine AWL.appendRowS (i := 0) rfl rfl (B rfl) rfl el_160 (B rfl) rfl (E rfl rfl) (SrcT.row so_160 (i := 1) rfl (E rfl rfl)) (by unfold maxLen; omega) (by omega) hA19 (fun A21 c21 hA21 => ?_)
   rw [Nat.zero_add]
   refine AWL.putRow (F := ([.row As K cs 29 1 ((ws).map zw), .box bw 159 (flCells f m aA n fs), .row aA n n 160 1 (fs.sls.map swCell), .row fs.tA fs.todo.length fs.tc 3 1 (fs.todo.map zn)] : St)) (L := k) (by rw [List.length_map]; exact hkl) (nl ?_)
   refine op 8 ?_
   refine y1 (nl ?_)
   refine op 9 ?_
   refine AWL.storeEp1 (i := 2) rfl rfl rfl ag_160 rfl (E rfl rfl) (E rfl rfl) rfl rfl (by rw [List.length_map, Nat.mul_one]; exact hkl) (nl ?_)
   refine dn ?_
   refine rg (y6 ?_)
   refine AWL.buildSlice1 rfl rfl (B rfl) rfl el_88 rfl (evsC (E rfl rfl) evs0) nB rfl rfl ?_
   refine AWL.appendRow (i := 3) rfl rfl (B rfl) rfl el_88 (B rfl) rfl (E rfl rfl) (SrcT.sl so_88 (B rfl) (E rfl rfl) (m := 1) rfl) (by unfold maxLen; omega) (by omega) (fun A30 c30 => ?_)
   refine y3 (nl ?_)
   refine retN .nil ?_
   refine ⟨rfl, ⟨fs.sls.set k ⟨A21, c21, some ws⟩, fs.todo ++ [k], A30, c30⟩, to_nil h hkl hv hA21 hw, ?_⟩
   unfold FSt flCells
   dsimp only
   rw [sw_rows hw, sw_cell_set hw, List.map_append, List.length_append, Nat.mul_one]
   rfl
  refine AWL.buildSliceRowS rfl rfl (B rfl) rfl el_160 (B rfl) rfl evs0 nB rfl rfl (fun A19 hA19 => ?_)
  refine nl ?_
  refine wp2 3 7 ?_ ?_
  ·refine y1 (nl ?_)
   refine op 7 ?_
   refine AWL.perm (List.perm_append_singleton _ _).symm ?_
   refine AWL.appendRowS (i := 0) rfl rfl (B rfl) rfl el_160 (B rfl) rfl (E rfl rfl) (SrcT.row so_160 (i := 1) rfl (E rfl rfl)) (by unfold maxLen; omega) (by omega) hA19 (fun A21 c21 hA21 => ?_)
   rw [Nat.zero_add]
   refine AWL.putRow (F := ([.row As K cs 29 1 ((ws).map zw), .box bw 159 (flCells f m aA n fs), .row aA n n 160 1 (fs.sls.map swCell), .row fs.tA fs.todo.length fs.tc 3 1 (fs.todo.map zn)] : St)) (L := k) (by rw [List.length_map]; exact hkl) (nl ?_)
   refine op 8 ?_
   refine y1 (nl ?_)
   refine op 9 ?_
   refine AWL.storeEp1 (i := 2) rfl rfl rfl ag_160 rfl (E rfl rfl) (E rfl rfl) rfl rfl (by rw [List.length_map, Nat.mul_one]; exact hkl) (nl ?_)
   refine dn ?_
   refine rg (y6 ?_)
   refine AWL.buildSlice1 rfl rfl (B rfl) rfl el_88 rfl (evsC (E rfl rfl) evs0) nB rfl rfl ?_
   refine AWL.appendRow (i := 3) rfl rfl (B rfl) rfl el_88 (B rfl) rfl (E rfl rfl) (SrcT.sl so_88 (B rfl) (E rfl rfl) (m := 1) rfl) (by unfold maxLen; omega) (by omega) (fun A30 c30 => ?_)
   refine y3 (nl ?_)
   refine retN .nil ?_
   refine ⟨rfl, ⟨fs.sls.set k ⟨A21, c21, some ws⟩, fs.todo ++ [k], A30, c30⟩, to_nil h hkl hv hA21 hw, ?_⟩
   unfold FSt flCells
   dsimp only
   rw [sw_rows hw, sw_cell_set hw, List.map_append, List.length_append, Nat.mul_one]
   rfl
  refine AWL.perm (List.perm_append_singleton _ _).symm ?_
  refine AWL.appendRowS (i := 0) rfl rfl (B rfl) rfl el_160 (B rfl) rfl (E rfl rfl) (SrcT.row so_160 (i := 1) rfl (E rfl rfl)) (by unfold maxLen; omega) (by omega) hA19 (fun A21 c21 hA21 => ?_)
  rw [Nat.zero_add]
  refine AWL.putRow (F := ([.row As K cs 29 1 ((ws).map zw), .box bw 159 (flCells f m aA n fs), .row aA n n 160 1 (fs.sls.map swCell), .row fs.tA fs.todo.length fs.tc 3 1 (fs.todo.map zn)] : St)) (L := k) (by rw [List.length_map]; exact hkl) (nl ?_)
  refine op 3 ?_
  refine y1 (nl ?_)
  refine op 8 ?_
  refine y1 (nl ?_)
  refine op 9 ?_
  refine AWL.storeEp1 (i := 2) rfl rfl rfl ag_160 rfl (E rfl rfl) (E rfl rfl) rfl rfl (by rw [List.length_map, Nat.mul_one]; exact hkl) (nl ?_)
  refine dn ?_
  refine rg (y6 ?_)
  refine AWL.buildSlice1 rfl rfl (B rfl) rfl el_88 rfl (evsC (E rfl rfl) evs0) nB rfl rfl ?_
  refine AWL.appendRow (i := 3) rfl rfl (B rfl) rfl el_88 (B rfl) rfl (E rfl rfl) (SrcT.sl so_88 (B rfl) (E rfl rfl) (m := 1) rfl) (by unfold maxLen; omega) (by omega) (fun A30 c30 => ?_)
  refine y3 (nl ?_)
  refine retN .nil ?_
  refine ⟨rfl, ⟨fs.sls.set k ⟨A21, c21, some ws⟩, fs.todo ++ [k], A30, c30⟩, to_nil h hkl hv hA21 hw, ?_⟩
  unfold FSt flCells
  dsimp only
  rw [sw_rows hw, sw_cell_set hw, List.map_append, List.length_append, Nat.mul_one]
  rfl
 have hv := sw_some (h.ok _ (getD_mem hkl)) h0f
 have hwK : (fs.sls.getD k default).ws.length = K := h.lenK _ (getD_mem hkl) _ hv
 have hml : (meetW (fs.sls.getD k default).ws ws).length = (fs.sls.getD k default).ws.length := meetW_len (by omega)
 refine AW.perm (perm_outF (F := ([.row As K cs 29 1 ((ws).map zw), .box bw 159 (flCells f m aA n fs), .row aA n n 160 1 (fs.sls.map swCell), .row fs.tA fs.todo.length fs.tc 3 1 (fs.todo.map zn)] : St)) (sw_row hkl)).symm ?_
 refine rs (y6 ?_)
 refine Y1 (lw (hr := fun hg => sw_cell (by first | omega | assumption))) ?_
 refine y1 ?_
 refine kc (meet59 (fs.sls.getD k default).A As (fs.sls.getD k default).ws.length K (fs.sls.getD k default).c cs (fs.sls.getD k default).ws ws rfl hw hwK (by omega)) ?_
 rintro t41 S41 ⟨rfl, rfl⟩
 refine nl ?_
 refine AW.perm (perm_back (F := ([.row As K cs 29 1 ((ws).map zw), .box bw 159 (flCells f m aA n fs), .row aA n n 160 1 (fs.sls.map swCell), .row fs.tA fs.todo.length fs.tc 3 1 (fs.todo.map zn)] : St)) (by rw [List.length_map]; exact hkl)).symm ?_
 refine cq (fun h1t => ?_) fun h1f => ?_
 ·refine rg (y6 ?_)
  refine AWL.buildSlice1 rfl rfl (B rfl) rfl el_88 rfl (evsC (E rfl rfl) evs0) nB rfl rfl ?_
  refine AWL.appendRow (i := 3) rfl rfl (B rfl) rfl el_88 (B rfl) rfl (E rfl rfl) (SrcT.sl so_88 (B rfl) (E rfl rfl) (m := 1) rfl) (by unfold maxLen; omega) (by omega) (fun A49 c49 => ?_)
  refine y3 (nl ?_)
  refine retN .nil ?_
  refine ⟨rfl, ⟨fs.sls.set k ⟨(fs.sls.getD k default).A, (fs.sls.getD k default).c, some (meetW (fs.sls.getD k default).ws ws)⟩, fs.todo ++ [k], A49, c49⟩, to_some h hkl hv hw (by rw [if_pos h1t]), ?_⟩
  unfold FSt flCells
  dsimp only
  rw [sw_rows hml, sw_cells hkl hml, List.map_append, List.length_append]
  rfl
 refine sp ?_
 refine retN .nil ?_
 refine ⟨rfl, ⟨fs.sls.set k ⟨(fs.sls.getD k default).A, (fs.sls.getD k default).c, some (meetW (fs.sls.getD k default).ws ws)⟩, fs.todo, fs.tA, fs.tc⟩, to_some h hkl hv hw (by rw [if_neg (by rw [h1f]; decide)]), ?_⟩
 unfold FSt flCells
 dsimp only
 rw [sw_rows hml, sw_cells hkl hml]
 rfl


theorem step39 (p : Prog) (bw : Nat) (f : Fn) (m : Nat) (aA : Option Addr) (n K R : Nat) (fs : FS) (k : Nat) (hp : FnIn f) (hf : FnOk p f) (hR : f.regs = (R : Int)) (h : FOk n K fs) (hnf : n = f.code.length) (hk : k < n) (hK : f.regs + f.slots ≤ 64 * K) (hK2 : K ≤ 17409) (hv : (fs.sls.getD k default).v = some (fs.sls.getD k default).ws) (ht : fs.todo.length ≤ 4398046511000) :
    ACalls Tryz.prog 80 [pv bw, zn k] (.map m (lmT (whL f.code)) :: FSt bw f m aA n fs) (fun t S => ∃ fs', t = bv (readOkB R (f.code.getD k default) (absB (fs.sls.getD k default).ws)) ∧ ((readOkB R (f.code.getD k default) (absB (fs.sls.getD k default).ws)) = true → Tos n K (behindF R (f.code.getD k default) (absB (fs.sls.getD k default).ws)) ((nextF (whL f.code) (f.code.getD k default) k).map Int.toNat) fs fs') ∧ S = .map m (lmT (whL f.code)) :: FSt bw f m aA n fs') := by
 refine lsr (R := (fun t S => ∃ fs', t = bv (readOkB R (f.code.getD k default) (absB (fs.sls.getD k default).ws)) ∧ ((readOkB R (f.code.getD k default) (absB (fs.sls.getD k default).ws)) = true → Tos n K (behindF R (f.code.getD k default) (absB (fs.sls.getD k default).ws)) ((nextF (whL f.code) (f.code.getD k default) k).map Int.toNat) fs fs') ∧ (.map m (lmT (whL f.code)) :: FSt bw f m aA n fs').Sublist S)) (fun t S' ⟨fs', h1, h2, h3⟩ => ⟨_, h3, fs', h1, h2, rfl⟩) ?_
 have hkl : k < fs.sls.length := by rw [h.len]; exact hk
 have hwk := h.lenK _ (getD_mem hkl) _ hv
 subst hwk
 have hkc : k < f.code.length := by omega
 have hfc := hp.code
 have hio := hf.ins _ (getD_mem hkc)
 have hin := hp.ins _ (getD_mem hkc)
 have hf2 := hf.par2
 have hf3 := hf.regs
 have hf4 := hf.slot0
 have hf5 := hf.slot1
 have hslot := hio.slot
 have hRW : R ≤ 64 * (fs.sls.getD k default).ws.length := by omega
 have hbh := wb3_abs (ws := (fs.sls.getD k default).ws) hR hio hK hf4
 refine ai Tryz.func80 Tryz.ntmps80 fun X w0 => ?_
 refine rs (y1 (nl ?_))
 refine AW.rseqH (HeldCs []) rfl (tells_cs (tc0)) ?_
 refine tq 0 ?_
 refine tq 1 ?_
 refine tq 2 ?_
 refine tq 3 ?_
 refine tq 5 ?_
 refine tq 9 ?_
 refine tq 10 ?_
 refine tq 11 ?_
 refine tq 13 ?_
 refine AWH.free [⟨4, some 15, [], [], (fun _ => .sl 11 (f.code.flatMap insCells)), (fun _ => True)⟩, ⟨6, some 17, [4], [], (fun _ => .rp (f.code.flatMap insCells) (k * 11)), (fun _ => True)⟩, ⟨7, some 18, [6], [], (fun _ => .agg (insCells (f.code.getD k default))), (fun _ => True)⟩, ⟨8, some 19, [], [8], (fun l => .v (.slice (l.getD 0 default).1 0 0)), (fun g => g.1.isSome = true)⟩, ⟨12, some 23, [], [], (fun _ => .v (.slice aA n n)), (fun _ => True)⟩, ⟨14, some 25, [12], [], (fun _ => .ep (.slice aA n n) (k * 1)), (fun _ => True)⟩, ⟨15, some 26, [14], [], (fun _ => swCell (fs.sls.getD k default)), (fun _ => True)⟩, ⟨16, some 27, [8, 15], [16], (fun l => .v (.slice (l.getD 0 default).1 (fs.sls.getD k default).ws.length (l.getD 0 default).2)), (fun g => g.1.isSome = true)⟩, ⟨17, some 5, [], [17], (fun l => .v (.pointer (some ⟨(l.getD 0 default).2, 0, none⟩))), (fun _ => True)⟩, ⟨18, some 6, [], [18], (fun l => .v (.pointer (some ⟨(l.getD 0 default).2, 0, none⟩))), (fun _ => True)⟩, ⟨19, none, [4, 6, 7, 16, 17, 18], [], (fun _ => .v (.bool false)), (fun _ => True)⟩, ⟨20, none, [4, 6, 7, 8, 12, 14, 15, 16, 17, 18, 19], [], (fun _ => .v (.bool false)), (fun _ => True)⟩] [⟨8, [8], (fun l => .row (l.getD 0 default).1 0 0 29 1 []), 16, [16], (fun l => .row (l.getD 0 default).1 (fs.sls.getD k default).ws.length (l.getD 0 default).2 29 1 (((fs.sls.getD k default).ws).map zw))⟩, ⟨17, [17], (fun l => .box (l.getD 0 default).2 90 (([.int .i64 0, .int .i64 0, .int .i64 0, .int .i64 0, .int .i64 0, .int .i64 0, .int .i64 0, .int .i64 0, .int .i64 0, .int .i64 0, .slice none 0 0]).map T.v)), 19, [17], (fun l => .box (l.getD 0 default).2 90 (insCells (f.code.getD k default)))⟩, ⟨18, [18], (fun l => .box (l.getD 0 default).2 160 (([.slice none 0 0]).map T.v)), 20, [16, 18], (fun l => .box (l.getD 1 default).2 160 [.v (.slice (l.getD 0 default).1 (fs.sls.getD k default).ws.length (l.getD 0 default).2)])⟩] 0 #[true, true, true, true, true, true, true, true, true, true, true, true, true, true, true, true, true, true, true, true, true] (ι := Option Addr × Option Addr × Nat × Nat × Nat) (fun ⟨A19, A27, c27, b5, b6⟩ => [(5, true, pv b5), (6, true, pv b6), (0, true, pv bw), (1, true, zn k)]) (fun ⟨A19, A27, c27, b5, b6⟩ => (.row A27 (fs.sls.getD k default).ws.length c27 29 1 (((fs.sls.getD k default).ws).map zw) :: .box b5 90 (insCells (f.code.getD k default)) :: .box b6 160 [.v (.slice A27 (fs.sls.getD k default).ws.length c27)] :: .map m (lmT (whL f.code)) :: .box bw 159 (flCells f m aA n fs) :: .row aA n n 160 1 (fs.sls.map swCell) :: .row fs.tA fs.todo.length fs.tc 3 1 (fs.todo.map zn) :: fs.sls.map swRow)) (fun ⟨A19, A27, c27, b5, b6⟩ => A19.isSome = true ∧ A27.isSome = true) rfl (by kernel_rfl) (by kernel_rfl) (tc0) ?_ ?_ ?_
 ·refine obC rfl (fun γ env X hS hv => ?_) ?_
  ·refine Y1 (Yv.loadBox rfl ag_84 (i := 1) rfl (Es hS eV) rfl) ?_
   exact AWL.nil (frA (none, 0) trivial rfl (.refl _))
  refine obC rfl (fun γ env X hS hv => ?_) ?_
  ·refine Y1 (Yv.ofFree (freeIdxSl (j := k) rfl ss_84 (by decide) (Es hS (E rfl rfl)) (Es hS (E rfl rfl)) ⟨rfl, by rw [len_code]; omega⟩)) ?_
   exact AWL.nil (frA (none, 0) trivial rfl (.refl _))
  refine obC rfl (fun γ env X hS hv => ?_) ?_
  ·refine Y1 (Yv.loadRpA rfl ag_90 (Es hS eV) (fun hg => ins_cells hkc)) ?_
   exact AWL.nil (frA (none, 0) trivial rfl (.refl _))
  refine obC rfl (fun γ env X hS hv => ?_) ?_
  ·refine AWL.buildSliceRowS rfl rfl (B rfl) rfl el_160 (B rfl) rfl evs0 nB rfl rfl (fun A19 hA19 => ?_)
   exact AWL.nil (frA (A19, 0) hA19 rfl (List.perm_append_singleton _ _))
  refine obC rfl (fun γ env X hS hv => ?_) ?_
  ·refine Y1 (Yv.loadBox rfl ag_157 (i := 1) rfl (Es hS eV) rfl) ?_
   exact AWL.nil (frA (none, 0) trivial rfl (.refl _))
  refine obC rfl (fun γ env X hS hv => ?_) ?_
  ·refine Y1 (Yv.ofFree (freeIdxRow (i := 2) rfl ss_157 rfl (Es hS eV) (Es hS eV) ⟨rfl, by omega⟩)) ?_
   exact AWL.nil (frA (none, 0) trivial rfl (.refl _))
  refine obC rfl (fun γ env X hS hv => ?_) ?_
  ·refine Y1 (Yv.loadEp rfl ag_160 (i := 2) rfl (Es hS eV) (fun hg => sw_cell hkl)) ?_
   exact AWL.nil (frA (none, 0) trivial rfl (.refl _))
  refine obC rfl (fun γ env X hS hv => ?_) ?_
  ·have hA19 : (γ 8).1.isSome = true := hv 8 (List.mem_of_getElem? (i := 0) rfl)
   refine AWL.appendRowS (i := 0) rfl rfl (B rfl) rfl el_160 (B rfl) rfl (Es hS (E rfl rfl)) (SrcT.row so_160 (i := k + 5) (appS (l := fs.sls.map swRow) (r := X) (sw_row hkl)) (Es hS (E rfl rfl))) (by unfold maxLen; omega) (by omega) hA19 (fun A27 c27 hA27 => ?_)
   rw [Nat.zero_add]
   exact AWL.nil (frA (A27, c27) hA27 rfl (.refl _))
  refine obC rfl (fun γ env X hS hv => ?_) ?_
  ·refine bx fun b5 => ?_
   exact AWL.nil (frA (none, b5) trivial rfl (List.perm_append_singleton _ _))
  refine obC rfl (fun γ env X hS hv => ?_) ?_
  ·refine bx fun b6 => ?_
   exact AWL.nil (frA (none, b6) trivial rfl (List.perm_append_singleton _ _))
  refine obC rfl (fun γ env X hS hv => ?_) ?_
  ·have hA27 : (γ 16).1.isSome = true := hv 16 (List.mem_of_getElem? (i := 3) rfl)
   refine AWL.storeBox (i := 0) rfl rfl rfl ag_90 rfl (Es hS (E rfl rfl)) (Es hS (E rfl rfl)) rfl rfl nB ?_
   exact AWL.nil (frA (none, 0) trivial rfl (.refl _))
  refine obC rfl (fun γ env X hS hv => ?_) ?_
  ·have hA19 : (γ 8).1.isSome = true := hv 8 (List.mem_of_getElem? (i := 3) rfl)
   have hA27 : (γ 16).1.isSome = true := hv 16 (List.mem_of_getElem? (i := 7) rfl)
   refine AWL.storeBox (i := 0) rfl rfl rfl ag_160 rfl (Es hS (E rfl rfl)) (Es hS (E rfl rfl)) rfl rfl nB ?_
   exact AWL.nil (frA (none, 0) trivial rfl (.refl _))
  trivial
 ·exact fun γ hi => ⟨((γ 8).1, (γ 16).1, (γ 16).2, (γ 17).2, (γ 18).2), ⟨hi _ (List.mem_of_getElem? (i := 3) rfl), hi _ (List.mem_of_getElem? (i := 7) rfl)⟩, sbZ, rfl⟩
 rintro ⟨A19, A27, c27, b5, b6⟩ ⟨hA19, hA27⟩
 refine dn ?_
 refine AW.eqS (S' := .row A27 (fs.sls.getD k default).ws.length c27 29 1 (((fs.sls.getD k default).ws).map zw) :: .box b5 90 (insCells (f.code.getD k default)) :: .box b6 160 [.v (.slice A27 (fs.sls.getD k default).ws.length c27)] :: .map m (lmT (whL f.code)) :: FSt bw f m aA n fs) rfl ?_
 refine rs ?_
 refine bg fun b7 => ?_
 refine y1 (nl ?_)
 refine AW.perm (S' := (.row A27 (fs.sls.getD k default).ws.length c27 29 1 (((fs.sls.getD k default).ws).map zw) :: .box b7 4 [bv (true)] :: .box b6 160 [.v (.slice A27 (fs.sls.getD k default).ws.length c27)] :: .box b5 90 (insCells (f.code.getD k default)) :: .map m (lmT (whL f.code)) :: FSt bw f m aA n fs)) ((List.Perm.swap _ _ _).trans (((List.Perm.swap _ _ _).cons _).cons _)) ?_
 refine rs (y1 ?_)
 refine Y1 (Yv.makeFunc rfl evs0 rfl (evsC eV (evsC eV evs0)) rfl) ?_
 refine kc (reads49S p f (cntL f.code) (f.code.getD k default) b7 b6 A27 (fs.sls.getD k default).ws.length c27 (fs.sls.getD k default).ws true hio hin.args rfl (by omega) (by omega)) ?_
 rintro t30 S30 ⟨rfl, rfl⟩
 refine nl ?_
 refine AW.eqS (S' := (.row A27 (fs.sls.getD k default).ws.length c27 29 1 (((fs.sls.getD k default).ws).map zw) :: .box b7 4 [bv (true && ((readsF (f.code.getD k default)).all fun r => bitW (fs.sls.getD k default).ws r.toNat))] :: .box b6 160 [.v (.slice A27 (fs.sls.getD k default).ws.length c27)] :: .box b5 90 (insCells (f.code.getD k default)) :: .map m (lmT (whL f.code)) :: FSt bw f m aA n fs)) rfl ?_
 refine AW.mid (α := Unit) (fun _ => [(0, true, pv bw), (1, true, zn k), (5, true, pv b5), (6, true, pv b6), (7, true, pv b7)]) (fun _ => (.row A27 (fs.sls.getD k default).ws.length c27 29 1 (((fs.sls.getD k default).ws).map zw) :: .box b7 4 [bv ((readOkB R (f.code.getD k default) (absB (fs.sls.getD k default).ws)))] :: .box b6 160 [.v (.slice A27 (fs.sls.getD k default).ws.length c27)] :: .box b5 90 (insCells (f.code.getD k default)) :: .map m (lmT (whL f.code)) :: FSt bw f m aA n fs)) (fun _ => True) ?_ ?_
 ·refine rs (y3 (nl ?_))
  refine cq (fun h0t => ?_) fun h0f => ?_
  ·refine AW.regionP rfl ?_
   refine phn 11 3 ?_
   refine q10 ?_
   refine kT (Yv.eqT (t' := zn (R + (f.code.getD k default).imm.toNat)) (Yv.addN_i64 rfl (Eg rfl rfl id) (Eg rfl rfl id) (fun hg => by omega)) (by unfold zn; rw [show f.regs + (f.code.getD k default).imm = ((R + (f.code.getD k default).imm.toNat : Nat) : Int) by omega])) ?_
   refine nq ?_
   refine op 11 ?_
   refine AWL.callKgT rfl rfl rfl rfl (B rfl) rfl ce_101 (E rfl rfl) (evsC (Eg rfl rfl id) (evsC (Eg rfl rfl id) evs0)) (S1 := [.row A27 (fs.sls.getD k default).ws.length c27 29 1 (((fs.sls.getD k default).ws).map zw)]) (S2 := _) rfl (fun hg => has61 A27 (fs.sls.getD k default).ws.length c27 (fs.sls.getD k default).ws (R + (f.code.getD k default).imm.toNat) rfl (by omega) (by omega)) (fun t S h => h) (nl ?_)
   refine op 12 ?_
   refine y1 (nl ?_)
   refine op 13 ?_
   refine y1 (nl ?_)
   refine dn ?_
   refine ⟨(), trivial, sbZ, ?_⟩
   rw [readOk_abs, decide_eq_true h0t]
   simp
   rfl
  refine sp ?_
  refine ⟨(), trivial, sbZ, ?_⟩
  rw [readOk_abs, decide_eq_false h0f]
  simp
 rintro _ hmid
 refine sq (rs (y2 (nl ?_)))
 refine cq (fun h1t => ?_) fun h1f => ?_
 ·have hbad : (readOkB R (f.code.getD k default) (absB (fs.sls.getD k default).ws)) = false := by simpa using h1t
  refine rs (y1 (nl ?_))
  refine rt ?_
  refine ⟨fs, by rw [hbad]; rfl, fun q => absurd (hbad.symm.trans q) (by decide), List.sublist_append_right ([_, _, _, _] : St) _⟩
 have hgood : (readOkB R (f.code.getD k default) (absB (fs.sls.getD k default).ws)) = true := by simpa using h1f
 refine sp ?_
 refine AW.mid (α := Unit) (fun _ => [(0, true, pv bw), (1, true, zn k), (5, true, pv b5), (6, true, pv b6), (7, true, pv b7)]) (fun _ => (.row A27 (fs.sls.getD k default).ws.length c27 29 1 ((wb1 R (f.code.getD k default) (fs.sls.getD k default).ws).map zw) :: .box b7 4 [bv ((readOkB R (f.code.getD k default) (absB (fs.sls.getD k default).ws)))] :: .box b6 160 [.v (.slice A27 (fs.sls.getD k default).ws.length c27)] :: .box b5 90 (insCells (f.code.getD k default)) :: .map m (lmT (whL f.code)) :: FSt bw f m aA n fs)) (fun _ => True) ?_ ?_
 ·refine rs (y8 (nl ?_))
  refine cq (fun h2t => ?_) fun h2f => ?_
  ·simp only [ne_eq, Bool.or_eq_true, Bool.and_eq_true, Bool.not_eq_true', decide_eq_true_eq, decide_eq_false_iff_not] at h2t
   refine rs (y6 ?_)
   refine nl (bk ?_)
   refine lp1 (fun (r : Nat) => [(0, true, pv bw), (1, true, zn k), (5, true, pv b5), (6, true, pv b6), (7, true, pv b7), (61, true, zi f.regs), (62, true, zn r)]) (fun (r : Nat) => (.row A27 (fs.sls.getD k default).ws.length c27 29 1 ((clrTo (fs.sls.getD k default).ws r).map zw) :: .box b7 4 [bv ((readOkB R (f.code.getD k default) (absB (fs.sls.getD k default).ws)))] :: .box b6 160 [.v (.slice A27 (fs.sls.getD k default).ws.length c27)] :: .box b5 90 (insCells (f.code.getD k default)) :: .map m (lmT (whL f.code)) :: FSt bw f m aA n fs)) (fun (r : Nat) => r ≤ R) (fun (r : Nat) => R - r) 0 ?_ ?_
   ·exact Nat.zero_le _
   intro r hinv
   refine rs (y1 ?_)
   refine nl (sq ?_)
   refine cq (fun _ => ?_) fun _ => ?_
   ·have hrR : r < R := by omega
    refine sp (sq (bk (rs (y2 (nl ?_)))))
    refine AW.regionP rfl ?_
    refine phn 10 1 ?_
    refine q2 ?_
    refine Q1 (Yv.eqT (t' := .v (.int .i64 ((r / 64 : Nat) : Int))) (Yv.quoN_i64 rfl eV eV (fun hg => by omega)) rfl) ?_
    refine q1 ?_
    refine Q1 (lw (hr := fun hg => word_at (by rw [clrTo_len]; omega))) ?_
    refine q1 ?_
    refine Q1 (Yv.eqT (t' := .v (.int .i64 ((r % 64 : Nat) : Int))) (Yv.remN rfl eV eV (fun hg => by omega)) rfl) ?_
    refine Q1 (Yv.shlW (a := 1#64) rfl (E rfl rfl) (E rfl rfl) (Nat.mod_lt r (by decide))) ?_
    refine Q1 (Yv.andNotW rfl eV eV) ?_
    refine q1 (nq ?_)
    refine op 10 ?_
    refine AWL.storeEp1 (i := 0) rfl rfl rfl ag_29 rfl (E rfl rfl) (E rfl rfl) rfl rfl (by rw [List.length_map, clrTo_len]; omega) (nl ?_)
    refine dn ?_
    refine rg (y2 (nl ?_))
    refine ⟨r + 1, by omega, by omega, (su (su (su (su (su (su (Sub.cons rfl (by unfold zn; simp) Sub.nil))))))), ?_⟩
    rw [clrTo_succ, clrW, ← map_set, Nat.mul_one]
    rfl
   refine xt ?_
   refine ⟨(), trivial, sbZ, ?_⟩
   obtain rfl : r = R := by omega
   rw [wb1, if_pos h2t]
  replace h2f : ¬ (_ = true) := fun q => Bool.false_ne_true (h2f.symm.trans q)
  simp only [ne_eq, Bool.or_eq_true, Bool.and_eq_true, Bool.not_eq_true', decide_eq_true_eq, decide_eq_false_iff_not] at h2f
  refine sp ?_
  refine ⟨(), trivial, sbZ, ?_⟩
  rw [wb1, if_neg h2f]
 rintro _ hmid
 refine AW.mid (α := Nat) (fun b9 => [(0, true, pv bw), (1, true, zn k), (5, true, pv b5), (6, true, pv b6), (7, true, pv b7), (9, true, pv b9)]) (fun b9 => (.row A27 (fs.sls.getD k default).ws.length c27 29 1 ((wb2 R (f.code.getD k default) (fs.sls.getD k default).ws).map zw) :: .box b9 143 (hasCells (hasF (f.code.getD k default).kind)) :: .box b7 4 [bv ((readOkB R (f.code.getD k default) (absB (fs.sls.getD k default).ws)))] :: .box b6 160 [.v (.slice A27 (fs.sls.getD k default).ws.length c27)] :: .box b5 90 (insCells (f.code.getD k default)) :: .map m (lmT (whL f.code)) :: FSt bw f m aA n fs)) (fun _ => True) ?_ ?_
 ·refine rs (y2 ?_)
  refine kt (fields57 (f.code.getD k default).kind) ?_
  rintro t79 S79 rfl
  refine y3 ?_
  refine bg fun b9 => ?_
  refine y2 (nl ?_)
  refine AW.perm (S' := (.row A27 (fs.sls.getD k default).ws.length c27 29 1 ((wb1 R (f.code.getD k default) (fs.sls.getD k default).ws).map zw) :: .box b9 143 (hasCells (hasF (f.code.getD k default).kind)) :: .box b7 4 [bv ((readOkB R (f.code.getD k default) (absB (fs.sls.getD k default).ws)))] :: .box b6 160 [.v (.slice A27 (fs.sls.getD k default).ws.length c27)] :: .box b5 90 (insCells (f.code.getD k default)) :: .map m (lmT (whL f.code)) :: FSt bw f m aA n fs)) (List.Perm.swap _ _ _) ?_
  refine rs (y2 (nl ?_))
  refine cq (fun h4t => ?_) fun h4f => ?_
  ·have hd := hio.d h4t
   have hdd := wb1_len (R := R) (i := (f.code.getD k default)) (ws := (fs.sls.getD k default).ws)
   refine rg (y2 ?_)
   refine Y1 (Yv.eqT (t' := zn (f.code.getD k default).d.toNat) (Yv.loadBox rfl ag_3 (i := 4) rfl eV rfl) (by unfold zn; rw [Int.toNat_of_nonneg hd.1]; rfl)) ?_
   refine kc (put37 A27 (fs.sls.getD k default).ws.length c27 (wb1 R (f.code.getD k default) (fs.sls.getD k default).ws) (f.code.getD k default).d.toNat wb1_len (by omega) (by omega)) ?_
   rintro t87 S87 ⟨rfl, rfl⟩
   refine nl ?_
   refine ⟨b9, trivial, sbZ, ?_⟩
   rw [wb2, if_pos h4t]
   rfl
  refine sp ?_
  refine ⟨b9, trivial, sbZ, ?_⟩
  rw [wb2, if_neg (by rw [show (hasF (f.code.getD k default).kind).d = false from h4f]; decide)]
 rintro b9 _
 refine AW.mid (α := Unit) (fun _ => [(0, true, pv bw), (1, true, zn k), (5, true, pv b5), (6, true, pv b6), (7, true, pv b7), (9, true, pv b9)]) (fun _ => (.row A27 (fs.sls.getD k default).ws.length c27 29 1 ((wb3 R (f.code.getD k default) (fs.sls.getD k default).ws).map zw) :: .box b9 143 (hasCells (hasF (f.code.getD k default).kind)) :: .box b7 4 [bv ((readOkB R (f.code.getD k default) (absB (fs.sls.getD k default).ws)))] :: .box b6 160 [.v (.slice A27 (fs.sls.getD k default).ws.length c27)] :: .box b5 90 (insCells (f.code.getD k default)) :: .map m (lmT (whL f.code)) :: FSt bw f m aA n fs)) (fun _ => True) ?_ ?_
 ·refine rs (y3 (nl ?_))
  refine cq (fun h5t => ?_) fun h5f => ?_
  ·have hs5 := hslot (.inr h5t)
   refine AW.regionP rfl ?_
   refine phn 9 1 ?_
   refine q8 ?_
   refine Q1 (Yv.eqT (t' := zn (R + (f.code.getD k default).imm.toNat)) (Yv.addN_i64 rfl eV eV (fun hg => by omega)) (by unfold zn; rw [show f.regs + (f.code.getD k default).imm = ((R + (f.code.getD k default).imm.toNat : Nat) : Int) by omega])) ?_
   refine nq ?_
   refine op 9 ?_
   refine kc (put37 A27 (fs.sls.getD k default).ws.length c27 (wb2 R (f.code.getD k default) (fs.sls.getD k default).ws) (R + (f.code.getD k default).imm.toNat) wb2_len (by omega) (by omega)) ?_
   rintro t100 S100 ⟨rfl, rfl⟩
   refine nl ?_
   refine dn ?_
   refine ⟨(), trivial, sbZ, ?_⟩
   rw [wb3, if_pos h5t]
   rfl
  refine sp ?_
  refine ⟨(), trivial, sbZ, ?_⟩
  rw [wb3, if_neg h5f]
 rintro _ hmid
 refine AW.mid (α := FS) (fun _ => [(0, true, pv bw), (1, true, zn k), (5, true, pv b5), (6, true, pv b6), (7, true, pv b7), (9, true, pv b9)]) (fun fs1 => (.box b9 143 (hasCells (hasF (f.code.getD k default).kind)) :: .box b7 4 [bv ((readOkB R (f.code.getD k default) (absB (fs.sls.getD k default).ws)))] :: .box b6 160 [.v (.slice A27 (fs.sls.getD k default).ws.length c27)] :: .box b5 90 (insCells (f.code.getD k default)) :: .map m (lmT (whL f.code)) :: .row A27 (fs.sls.getD k default).ws.length c27 29 1 ((wb3 R (f.code.getD k default) (fs.sls.getD k default).ws).map zw) :: FSt bw f m aA n fs1)) (fun fs1 => Tos n (fs.sls.getD k default).ws.length (absB (wb3 R (f.code.getD k default) (fs.sls.getD k default).ws)) ((nx1 (whL f.code) (f.code.getD k default)).map Int.toNat) fs fs1 ∧ FOk n (fs.sls.getD k default).ws.length fs1 ∧ fs1.todo.length ≤ fs.todo.length + 1) ?_ ?_
 ·refine AW.perm (S' := (.box b9 143 (hasCells (hasF (f.code.getD k default).kind)) :: .box b7 4 [bv ((readOkB R (f.code.getD k default) (absB (fs.sls.getD k default).ws)))] :: .box b6 160 [.v (.slice A27 (fs.sls.getD k default).ws.length c27)] :: .box b5 90 (insCells (f.code.getD k default)) :: .map m (lmT (whL f.code)) :: .row A27 (fs.sls.getD k default).ws.length c27 29 1 ((wb3 R (f.code.getD k default) (fs.sls.getD k default).ws).map zw) :: FSt bw f m aA n fs)) (List.perm_middle (l₁ := ([.box b9 143 (hasCells (hasF (f.code.getD k default).kind)), .box b7 4 [bv ((readOkB R (f.code.getD k default) (absB (fs.sls.getD k default).ws)))], .box b6 160 [.v (.slice A27 (fs.sls.getD k default).ws.length c27)], .box b5 90 (insCells (f.code.getD k default)), .map m (lmT (whL f.code))] : St))) ?_
  refine rs (y8 (nl ?_))
  refine cq (fun h6t => ?_) fun h6f => ?_
  ·simp only [ne_eq, Bool.or_eq_true, Bool.and_eq_true, Bool.not_eq_true', decide_eq_true_eq, decide_eq_false_iff_not] at h6t
   have hlab := hio.lab (by rcases h6t with q | q <;> rw [q] <;> rfl)
   have hlb := wh_in (code := f.code) (l := (f.code.getD k default).l) (by omega)
   have hlb1 := hlb.1
   have hlb2 : (getL (f.code.getD k default).l (whL f.code)).toNat < n := by omega
   refine AW.regionP rfl ?_
   refine phn 9 1 ?_
   refine q7 ?_
   refine Q1 (Yv.eqT (t' := zn (getL (f.code.getD k default).l (whL f.code)).toNat) (Yv.eqT (Yv.lookup1 (k := .i _ _) (i := 4) rfl mp_87 rfl eV eV rfl (lm_good _ _ rfl)) (get_lm _ _)) (by unfold zn; rw [Int.toNat_of_nonneg hlb1]; rfl)) ?_
   refine q1 (nq ?_)
   refine op 9 ?_
   refine cE ce_79 [.box b9 143 (hasCells (hasF (f.code.getD k default).kind)), .box b7 4 [bv ((readOkB R (f.code.getD k default) (absB (fs.sls.getD k default).ws)))], .box b6 160 [.v (.slice A27 (fs.sls.getD k default).ws.length c27)], .box b5 90 (insCells (f.code.getD k default)), .map m (lmT (whL f.code))] _ rfl rfl rfl (to38 bw f m aA n (fs.sls.getD k default).ws.length fs (getL (f.code.getD k default).l (whL f.code)).toNat A27 c27 (wb3 R (f.code.getD k default) (fs.sls.getD k default).ws) h hlb2 (by omega) (by omega) wb3_len (by omega)) ?_
   rintro t118 S118 ⟨rfl, fs1, hto, rfl⟩
   refine nl ?_
   refine dn ?_
   refine ⟨fs1, ⟨by rw [nx1_t h6t]; exact ⟨fs1, hto, rfl⟩, hto.ok, ?_⟩, sbZ, rfl⟩
   rw [hto.todo]
   split <;> simp
  replace h6f : ¬ (_ = true) := fun q => Bool.false_ne_true (h6f.symm.trans q)
  simp only [ne_eq, Bool.or_eq_true, Bool.and_eq_true, Bool.not_eq_true', decide_eq_true_eq, decide_eq_false_iff_not] at h6f
  refine sp ?_
  refine ⟨fs, ⟨by rw [nx1_f h6f]; exact rfl, h, by omega⟩, sbZ, rfl⟩
 rintro fs1 ⟨htos, hok1, htd0⟩
 refine sq (rs (y2 ?_))
 refine kp (ends34 (f.code.getD k default).kind) ?_
 refine y1 (nl ?_)
 refine cq (fun h7t => ?_) fun h7f => ?_
 ·have hen : endsF (f.code.getD k default).kind = false := by simpa using h7t
  have hlb3 : k + 1 < n := by
   have hx := next_in hf hkc ((k : Int) + 1) (by rw [nx_f hen]; exact List.mem_append.2 (.inr List.mem_cons_self))
   omega
  have htd1 : fs1.todo.length ≤ 4398046511104 := by omega
  refine rg (y4 ?_)
  refine cE ce_79 [.box b9 143 (hasCells (hasF (f.code.getD k default).kind)), .box b7 4 [bv ((readOkB R (f.code.getD k default) (absB (fs.sls.getD k default).ws)))], .box b6 160 [.v (.slice A27 (fs.sls.getD k default).ws.length c27)], .box b5 90 (insCells (f.code.getD k default)), .map m (lmT (whL f.code))] _ rfl rfl rfl (to38 bw f m aA n (fs.sls.getD k default).ws.length fs1 (k + 1) A27 c27 (wb3 R (f.code.getD k default) (fs.sls.getD k default).ws) hok1 hlb3 (by omega) (by omega) wb3_len htd1) ?_
  rintro t127 S127 ⟨rfl, fs2, hto2, rfl⟩
  refine nl (rs (y1 (nl ?_)))
  refine rt ?_
  refine ⟨fs2, by rw [hgood]; rfl, fun _ => ?_, ?_⟩
  ·rw [nx_f hen, List.map_append, ← hbh]
   exact htos.app ⟨fs2, hto2, rfl⟩
  exact (List.Sublist.cons_cons _ (List.sublist_append_right ([_] : St) _)).trans (List.sublist_append_right ([_, _, _, _] : St) _)
 have hen : endsF (f.code.getD k default).kind = true := by simpa using h7f
 refine sp (rs (y1 (nl ?_)))
 refine rt ?_
 refine ⟨fs1, by rw [hgood]; rfl, fun _ => ?_, ?_⟩
 ·rw [nx_t hen, ← hbh]
  exact htos
 exact (List.Sublist.cons_cons _ (List.sublist_append_right ([_] : St) _)).trans (List.sublist_append_right ([_, _, _, _] : St) _)

theorem sf_not {f : Fn} {W : Nat} {X : Fam} {k : Nat} {a : List Bool} (ha : Above f f.regs.toNat W X) (hk : k < f.code.length) (hX : famAt X k = some a) (hb : readOkB f.regs.toNat (f.code.getD k default) a = false) : ¬ SF f W := by
 rintro ⟨Y, hY, hr⟩
 have h1 := ha Y hY k
 rw [hX] at h1
 cases hy : famAt Y k with
 | none => rw [hy] at h1; exact absurd h1 id
 | some b =>
  rw [hy] at h1
  have h2 := hr k b hk hy
  have : readOkB f.regs.toNat (f.code.getD k default) a = true := by
   unfold readOkB at h2 ⊢
   rw [Bool.and_eq_true, List.all_eq_true, Bool.or_eq_true] at h2 ⊢
   exact ⟨fun r hr' => h1 _ (h2.1 r hr'), h2.2.imp id (fun q => h1 _ q)⟩
  rw [hb] at this
  cases this
def closed (f : Fn) (R : Nat) (X : Fam) (k : Nat) (a : List Bool) : Prop := readOkB R (f.code.getD k default) a = true ∧ ∀ l ∈ nextF (whL f.code) (f.code.getD k default) k, leO (famAt X l.toNat) (some (behindF R (f.code.getD k default) a))
structure WJ (f : Fn) (R W n K : Nat) (fs : FS) (P : Nat → List Bool → Prop) : Prop where
 fok : FOk n K fs
 fin : FamIn f W (famW fs.sls)
 ab : Above f R W (famW fs.sls)
 fst : ∃ a, famAt (famW fs.sls) 0 = some a ∧ leB a (firstF R W f.params.toNat)
 todo : ∀ t ∈ fs.todo, t < n ∧ (famAt (famW fs.sls) t).isSome = true
 clo : ∀ k a, famAt (famW fs.sls) k = some a → k ∈ fs.todo ∨ closed f R (famW fs.sls) k a ∨ P k a
abbrev WI (f : Fn) (R W n K : Nat) (fs : FS) : Prop := WJ f R W n K fs (fun _ _ => False)
def meas (W : Nat) (fs : FS) : Nat := pot W (famW fs.sls) + fs.todo.length
theorem meetX_le {X : Fam} {l : Nat} {out : List Bool} (hl : l < X.length) (hlen : ∀ c, famAt X l = some c → c.length = out.length) {q : Nat} {b : List Bool} (h : leO (famAt X q) (some b)) : leO (famAt (meetX X l out) q) (some b) := by
 unfold meetX
 rw [famAt_set hl]
 by_cases hq : q = l
 ·subst hq
  rw [if_pos rfl]
  cases hX : famAt X q with
  | none => rw [hX] at h; exact absurd h id
  | some c =>
   rw [hX] at h
   intro n hn
   rw [meet_get (hlen c hX), Bool.and_eq_true] at hn
   exact h n hn.1
 rw [if_neg hq]; exact h
theorem meetX_out {X : Fam} {l : Nat} {out : List Bool} (hl : l < X.length) (hlen : ∀ c, famAt X l = some c → c.length = out.length) : leO (famAt (meetX X l out) l) (some out) := by
 unfold meetX
 rw [famAt_set hl, if_pos rfl]
 cases hX : famAt X l with
 | none => exact leB.refl _
 | some c =>
  intro n hn
  rw [meet_get (hlen c hX), Bool.and_eq_true] at hn
  exact hn.2
theorem WJ.to {f : Fn} {R W n K k : Nat} {fs fs' : FS} {a : List Bool} {l : Int} {ls : List Int} (hn : n = f.code.length) (hR : R ≤ W)
    (h : WJ f R W n K fs (fun k' a' => k' = k ∧ a' = a ∧ ∀ q ∈ ls, leO (famAt (famW fs.sls) q.toNat) (some (behindF R (f.code.getD k default) a)))) (hk : k < n) (hal : a.length = W) (ha : ∀ Y, Sol f R W Y → leO (famAt Y k) (some a))
    (hl : l ∈ nextF (whL f.code) (f.code.getD k default) k) (hll : l.toNat < n) (ht : ToR n K fs l.toNat (behindF R (f.code.getD k default) a) fs') :
    WJ f R W n K fs' (fun k' a' => k' = k ∧ a' = a ∧ ∀ q ∈ ls ++ [l], leO (famAt (famW fs'.sls) q.toNat) (some (behindF R (f.code.getD k default) a))) ∧ meas W fs' ≤ meas W fs ∧ (pot W (famW fs'.sls) ≤ pot W (famW fs.sls)) ∧ 2 * pot W (famW fs'.sls) + fs'.todo.length ≤ 2 * pot W (famW fs.sls) + fs.todo.length := by
 have hm := (FI.start h.fin h.ab h.fst).meet hR (by omega) hal ha hl (by omega)
 have hob : (behindF R (f.code.getD k default) a).length = W := by rw [behind_len (by omega), hal]
 have hlX : l.toNat < (famW fs.sls).length := by rw [h.fin.len]; omega
 have hlen : ∀ c, famAt (famW fs.sls) l.toNat = some c → c.length = (behindF R (f.code.getD k default) a).length := fun c hc => by rw [h.fin.bits _ c hc, hob]
 rw [Bool.false_or] at hm
 have hfm := ht.fam
 have htd := ht.todo
 rw [← hfm] at hm
 have hsub : ∀ t, t ∈ fs.todo → t ∈ fs'.todo := fun t q => by rw [htd]; split <;> simp [q]
 refine ⟨⟨ht.ok, hm.fin, hm.ab, hm.fst, fun t q => ?_, fun k' a' hk' => ?_⟩, ?_, hm.le, ?_⟩
 ·have key : ∀ t, t < n → (famAt (famW fs.sls) t).isSome = true → (famAt (famW fs'.sls) t).isSome = true := fun t _ hv => by
   rw [hfm]
   unfold meetX
   rw [famAt_set hlX]
   split
   ·rfl
   ·exact hv
  rw [htd] at q
  split at q
  ·rcases List.mem_append.1 q with q | q
   ·exact ⟨(h.todo t q).1, key t (h.todo t q).1 (h.todo t q).2⟩
   rw [List.mem_singleton.1 q]
   refine ⟨hll, ?_⟩
   rw [hfm]
   unfold meetX
   rw [famAt_set hlX, if_pos rfl]
   rfl
  exact ⟨(h.todo t q).1, key t (h.todo t q).1 (h.todo t q).2⟩
 ·have same : famAt (famW fs.sls) k' = some a' → k' ∈ fs'.todo ∨ closed f R (famW fs'.sls) k' a' ∨ (k' = k ∧ a' = a ∧ ∀ q ∈ ls ++ [l], leO (famAt (famW fs'.sls) q.toNat) (some (behindF R (f.code.getD k default) a))) := fun hv => by
   rcases h.clo k' a' hv with q | q | ⟨q1, q2, q3⟩
   ·exact .inl (hsub _ q)
   ·refine .inr (.inl ⟨q.1, fun l' hl' => ?_⟩)
    rw [hfm]
    exact meetX_le hlX hlen (q.2 l' hl')
   ·refine .inr (.inr ⟨q1, q2, fun q hq => ?_⟩)
    rw [hfm]
    rcases List.mem_append.1 hq with hq | hq
    ·exact meetX_le hlX hlen (q3 q hq)
    ·rw [List.mem_singleton.1 hq]
     exact meetX_out hlX hlen
  cases hc : chg (famW fs.sls) l.toNat (behindF R (f.code.getD k default) a) with
  | false =>
   have := hm.eq hc
   rw [this] at hk'
   exact same hk'
  | true =>
   by_cases hkl : k' = l.toNat
   ·left
    rw [htd, if_pos hc, hkl]
    simp
   ·refine same ?_
    rw [hfm] at hk'
    unfold meetX at hk'
    rw [famAt_set hlX, if_neg hkl] at hk'
    exact hk'
 ·unfold meas
  rw [htd]
  cases hc : chg (famW fs.sls) l.toNat (behindF R (f.code.getD k default) a) with
  | false => have := hm.le; simp only [Bool.false_eq_true, if_false]; omega
  | true => have := hm.lt hc; simp only [if_true, List.length_append, List.length_cons, List.length_nil]; omega
 rw [htd]
 cases hc : chg (famW fs.sls) l.toNat (behindF R (f.code.getD k default) a) with
 | false => have := hm.le; simp only [Bool.false_eq_true, if_false]; omega
 | true => have := hm.lt hc; simp only [if_true, List.length_append, List.length_cons, List.length_nil]; omega
theorem WJ.tos {f : Fn} {R W n K k : Nat} {a : List Bool} (hn : n = f.code.length) (hR : R ≤ W) (hk : k < n) (hal : a.length = W) (ha : ∀ Y, Sol f R W Y → leO (famAt Y k) (some a)) (hin : ∀ l ∈ nextF (whL f.code) (f.code.getD k default) k, 0 ≤ l ∧ l.toNat < n) :
    ∀ (rest ls : List Int) {fs fs' : FS}, (∀ l ∈ rest, l ∈ nextF (whL f.code) (f.code.getD k default) k) → WJ f R W n K fs (fun k' a' => k' = k ∧ a' = a ∧ ∀ q ∈ ls, leO (famAt (famW fs.sls) q.toNat) (some (behindF R (f.code.getD k default) a))) → Tos n K (behindF R (f.code.getD k default) a) (rest.map Int.toNat) fs fs' →
     WJ f R W n K fs' (fun k' a' => k' = k ∧ a' = a ∧ ∀ q ∈ ls ++ rest, leO (famAt (famW fs'.sls) q.toNat) (some (behindF R (f.code.getD k default) a))) ∧ meas W fs' ≤ meas W fs ∧ 2 * pot W (famW fs'.sls) + fs'.todo.length ≤ 2 * pot W (famW fs.sls) + fs.todo.length
 | [], ls, fs, fs', _, h, ht => by
  rw [show fs' = fs from ht, List.append_nil]
  exact ⟨h, Nat.le_refl _, Nat.le_refl _⟩
 | l :: r, ls, fs, fs', hr, h, ⟨fs1, h1, h2⟩ => by
  obtain ⟨q1, q2, _, q4⟩ := h.to hn hR hk hal ha (hr l List.mem_cons_self) (hin l (hr l List.mem_cons_self)).2 h1
  obtain ⟨p1, p2, p3⟩ := WJ.tos hn hR hk hal ha hin r (ls ++ [l]) (fun x hx => hr x (List.mem_cons_of_mem _ hx)) q1 h2
  rw [List.append_assoc] at p1
  exact ⟨p1, by omega, by omega⟩
theorem WI.round {p : Prog} {f : Fn} {R W n K : Nat} {fs fs' : FS} {a : List Bool} (hf : FnOk p f) (hn : n = f.code.length) (hR : R ≤ W) (h : WI f R W n K fs) (h0 : 0 < fs.todo.length)
    (hX : famAt (famW fs.sls) (fs.todo.getD (fs.todo.length - 1) default) = some a) (hok : readOkB R (f.code.getD (fs.todo.getD (fs.todo.length - 1) default) default) a = true) {tA : Option Addr} {tc : Nat}
    (ht : Tos n K (behindF R (f.code.getD (fs.todo.getD (fs.todo.length - 1) default) default) a) ((nextF (whL f.code) (f.code.getD (fs.todo.getD (fs.todo.length - 1) default) default) (fs.todo.getD (fs.todo.length - 1) default)).map Int.toNat) ⟨fs.sls, fs.todo.take (fs.todo.length - 1), tA, tc⟩ fs') :
    WI f R W n K fs' ∧ meas W fs' ≤ meas W fs ∧ 2 * pot W (famW fs'.sls) + fs'.todo.length < 2 * pot W (famW fs.sls) + fs.todo.length := by
 have hmem := getD_mem (l := fs.todo) (j := fs.todo.length - 1) (by omega)
 have hsplit : fs.todo = fs.todo.take (fs.todo.length - 1) ++ [fs.todo.getD (fs.todo.length - 1) default] := by
  conv => lhs; rw [← List.take_length (l := fs.todo), show fs.todo.length = (fs.todo.length - 1) + 1 by omega]
  exact take_gd (by omega)
 generalize fs.todo.getD (fs.todo.length - 1) default = k at *
 have hk := (h.todo k hmem).1
 have hal := h.fin.bits k a hX
 have hha : ∀ Y, Sol f R W Y → leO (famAt Y k) (some a) := fun Y hY => by
  have := h.ab Y hY k
  rwa [hX] at this
 have hJ : WJ f R W n K ⟨fs.sls, fs.todo.take (fs.todo.length - 1), tA, tc⟩ (fun k' a' => k' = k ∧ a' = a ∧ ∀ q ∈ ([] : List Int), leO (famAt (famW fs.sls) q.toNat) (some (behindF R (f.code.getD k default) a))) := by
  refine ⟨⟨h.fok.len, h.fok.ok, h.fok.lenK⟩, h.fin, h.ab, h.fst, fun t q => h.todo t (List.mem_of_mem_take q), fun k' a' hk' => ?_⟩
  rcases h.clo k' a' hk' with q | q | q
  ·rw [hsplit] at q
   rcases List.mem_append.1 q with q | q
   ·exact .inl q
   ·rw [List.mem_singleton] at q
    subst q
    refine .inr (.inr ⟨rfl, ?_, fun _ hq => (by cases hq)⟩)
    have e : some a' = some a := hk'.symm.trans hX
    exact Option.some.inj e
  ·exact .inr (.inl q)
  ·exact absurd q id
 obtain ⟨p1, p2, p3⟩ := WJ.tos hn hR hk hal hha (fun l hl => by have := next_in hf (by omega) l hl; omega) _ [] (fun _ hl => hl) hJ ht
 have htl : (fs.todo.take (fs.todo.length - 1)).length = fs.todo.length - 1 := by rw [List.length_take]; omega
 refine ⟨⟨p1.fok, p1.fin, p1.ab, p1.fst, p1.todo, fun k' a' hk' => ?_⟩, ?_, ?_⟩
 ·rcases p1.clo k' a' hk' with q | q | ⟨q1, q2, q3⟩
  ·exact .inl q
  ·exact .inr (.inl q)
  subst q1; subst q2
  exact .inr (.inl ⟨hok, fun l hl => q3 l (by simpa using hl)⟩)
 ·unfold meas at p2 ⊢
  simp only [htl] at p2
  omega
 simp only [htl] at p3
 omega
theorem WI.done {f : Fn} {W n K : Nat} {fs : FS} (hn : n = f.code.length) (h : WI f f.regs.toNat W n K fs) (h0 : fs.todo.length = 0) : SF f W := by
 have hnil : fs.todo = [] := List.eq_nil_of_length_eq_zero h0
 have hc : ∀ k a, famAt (famW fs.sls) k = some a → closed f f.regs.toNat (famW fs.sls) k a := fun k a hk => by
  rcases h.clo k a hk with q | q | q
  ·rw [hnil] at q; cases q
  ·exact q
  ·exact absurd q id
 exact ⟨famW fs.sls, ⟨h.fin.len, h.fin.bits, h.fst, fun k a _ ha l hl => (hc k a ha).2 l hl⟩, fun k a _ ha => (hc k a ha).1⟩
/-! ### as it begins -/
def firstW (K j : Nat) : List Wd64 := (List.range j).foldl putW (List.replicate K 0#64)
theorem firstW_succ (K j : Nat) : firstW K (j + 1) = putW (firstW K j) j := by
 unfold firstW
 rw [List.range_succ, List.foldl_append]
 rfl
theorem firstW_len (K : Nat) : ∀ j, (firstW K j).length = K
 | 0 => by unfold firstW; simp
 | j + 1 => by rw [firstW_succ, putW_len, firstW_len K j]
theorem firstW_abs {K R : Nat} : ∀ {j : Nat}, j ≤ 64 * K → absB (firstW K j) = firstF R (64 * K) j
 | 0, _ => by unfold firstW firstF; rw [show (List.range 0).foldl putW (List.replicate K 0#64) = List.replicate K 0#64 from rfl, abs_zero]; simp
 | j + 1, h => by
  rw [firstW_succ, abs_put (by rw [firstW_len]; omega), firstW_abs (R := R) (by omega)]
  unfold firstF
  rw [List.set_append_right _ _ (by simp)]
  simp only [List.length_replicate, Nat.sub_self]
  rw [show 64 * K - j = (64 * K - (j + 1)) + 1 by omega, List.replicate_succ, List.set_cons_zero, List.replicate_succ', List.append_assoc]
  rfl
def fs0 (n : Nat) : FS := ⟨List.replicate n ⟨none, 0, none⟩, [], none, 0⟩
theorem fs0_ok (n K : Nat) : FOk n K (fs0 n) := ⟨by unfold fs0; simp, fun s hs => by rw [(List.mem_replicate.1 hs).2]; rfl, fun s hs ws e => by rw [(List.mem_replicate.1 hs).2] at e; cases e⟩
theorem fs0_at (n k : Nat) : famAt (famW (fs0 n).sls) k = none := by
 unfold fs0 famW famAt
 rw [List.map_replicate, List.getD_eq_getElem?_getD, List.getElem?_replicate]
 split <;> rfl
theorem fs0_pot (n W : Nat) : pot W (famW (fs0 n).sls) = n * (W + 1) := by
 unfold fs0 famW pot
 rw [List.map_replicate, List.map_replicate]
 simp [potO]
theorem WI.start {f : Fn} {R n K : Nat} {fs : FS} (hn : n = f.code.length) (h0 : 0 < n) (hP : f.params.toNat ≤ 64 * K) (h : ToR n K (fs0 n) 0 (firstF R (64 * K) f.params.toNat) fs) : WI f R (64 * K) n K fs ∧ meas (64 * K) fs ≤ n * (64 * K + 1) := by
 have hfl : (firstF R (64 * K) f.params.toNat).length = 64 * K := first_len hP
 have hlen : (famW (fs0 n).sls).length = n := by unfold famW fs0; simp
 have hat : ∀ k, famAt (famW fs.sls) k = if k = 0 then some (firstF R (64 * K) f.params.toNat) else none := fun k => by
  rw [h.fam]
  unfold meetX
  rw [famAt_set (by omega), fs0_at]
  split
  ·rfl
  ·exact fs0_at n k
 have hchg : chg (famW (fs0 n).sls) 0 (firstF R (64 * K) f.params.toNat) = true := by unfold chg; rw [fs0_at]
 have htd : fs.todo = [0] := by rw [h.todo, if_pos hchg]; rfl
 refine ⟨⟨h.ok, ⟨by rw [h.fam]; unfold meetX; rw [List.length_set, hlen, hn], fun k a ha => ?_⟩, fun Y hY k => ?_, ⟨_, by rw [hat, if_pos rfl], leB.refl _⟩, fun t q => ?_, fun k a ha => ?_⟩, ?_⟩
 ·rw [hat] at ha
  split at ha
  ·simp only [Option.some.injEq] at ha
   rw [← ha]; exact hfl
  cases ha
 ·rw [hat]
  split
  ·rename_i hk
   subst hk
   obtain ⟨a, h1, h2⟩ := hY.first
   rw [h1]; exact h2
  cases famAt Y k <;> trivial
 ·rw [htd, List.mem_singleton] at q
  subst q
  exact ⟨h0, by rw [hat, if_pos rfl]; rfl⟩
 ·rw [hat] at ha
  split at ha
  ·rename_i hk; left; rw [htd, hk]; simp
  cases ha
 unfold meas
 have := pot_set (W := 64 * K) (X := famW (fs0 n).sls) (k := 0) (v := some (firstF R (64 * K) f.params.toNat)) (by omega)
 have e : famW fs.sls = (famW (fs0 n).sls).set 0 (some (firstF R (64 * K) f.params.toNat)) := by
  rw [h.fam]
  unfold meetX
  rw [fs0_at]
 rw [e, htd]
 rw [fs0_at, fs0_pot] at this
 have hc := count_le (firstF R (64 * K) f.params.toNat)
 simp only [potO] at this
 simp only [List.length_cons, List.length_nil]
 omega
theorem td_at {l : List Nat} {j : Nat} (h : j < l.length) : (l.map zn)[j * 1 + 0]? = some (zn (l.getD j default)) := by
 rw [Nat.mul_one, Nat.add_zero, List.getElem?_map, List.getElem?_eq_getElem h, gd h]; rfl
theorem perm13 {α : Type} {a b c : α} {l : List α} : (a :: b :: c :: l).Perm (c :: b :: a :: l) := List.Perm.trans (List.Perm.swap _ _ _) (List.Perm.trans (List.Perm.cons _ (List.Perm.swap _ _ _)) (List.Perm.swap _ _ _))
section
variable {cx : Cx} {env : Env} {S : St} {code : Code} {Q : Exit → Env → St → Prop}
theorem AW.shrink {n c k : Nat} {A : Option Addr} {e : TypeId} {cs : List T} (i m : Nat) (hi : S[i]? = some (.row A n c e k cs)) (hm : m ≤ n) (h : AW cx code Q env (S.set i (.row A m c e k (cs.take (m * k))))) : AW cx code Q env S := fun a w hs => by
 obtain ⟨us, ⟨r1, r2, r3, r4⟩, hV⟩ := hs.row hi
 have hmk : m * k ≤ n * k := Nat.mul_le_mul_right k hm
 refine h a w (hs.setEnt hi rfl (fun _ _ _ => rfl) rfl rfl rfl rfl ⟨us.take (m * k), ⟨by rw [List.length_take, r1]; omega, r2, by omega, ?_⟩, hV.take _⟩)
 rcases r4 with ⟨h1, h2, h3⟩ | ⟨g, cur, fr, h1, h2, h3, h4, h5⟩
 ·exact .inl ⟨h1, by omega, h3⟩
 ·refine .inr ⟨g, cur, fr, h1, h2, h3, h4, ?_⟩
  rw [← h5, List.take_take, Nat.min_eq_left hmk]
end
end Go.Proofs.YtlfklgganokgdaaGreat
