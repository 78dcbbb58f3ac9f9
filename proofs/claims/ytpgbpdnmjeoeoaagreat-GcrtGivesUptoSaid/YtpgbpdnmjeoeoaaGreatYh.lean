/-
  TEXTS JOINED: Zk13, Zk14, Wg, Zd, Zk17, BGx, BFacts, BGb, BWk1.
-/
import Derived.Test.YtpgbpdnmjeoeoaaGreatRows
import Derived.Test.YtpgbpdnmjeoeoaaGreatYg
set_option linter.unusedSimpArgs false
set_option linter.unusedVariables false
set_option linter.unusedSectionVars false
set_option linter.unnecessarySimpa false
namespace Go.Proofs.YtpgbpdnmjeoeoaaGreat
open Go Go.RowKit

set_option maxHeartbeats 16000000 in
theorem DstepR1_ (s g c : Nat) (ps : PS) (ob : Bool) (x : Fr) (a : FA) (i : Ins) (hx : FrOk x) (hk : i.kind = 26) (ha : (hasF i.kind).a = true → 0 ≤ i.a ∧ i.a < (x.nr : Int)) (hb : (hasF i.kind).b = true → 0 ≤ i.b ∧ i.b < (x.nr : Int)) (hg : (hasF i.kind).args = true → ∀ r ∈ i.args, 0 ≤ r ∧ r < (x.nr : Int)) (hgl : i.args.length ≤ 1048576) :
    ACalls Tryz.prog 47 [pv s, .ep (.slice (some ⟨g, 0, none⟩) 1 c) ([] : List T).length, .agg (insCells i)] ([Ent.box s 75 (psD ps ob (.v (.slice (some ⟨g, 0, none⟩) 1 c))), Ent.row (some ⟨g, 0, none⟩) 1 c 116 7 (([] : List T) ++ frD x a)] ++ frE x a) (fun t S => t = bv (okS x.set (readsF i)) ∧ (([Ent.box s 75 (psD (if (okS x.set (readsF i)) = true then backP ps (rA x i.a) else ps) ob (.v (.slice (some ⟨g, 0, none⟩) 1 c))), Ent.row (some ⟨g, 0, none⟩) 1 c 116 7 (([] : List T) ++ frD x a)] ++ frE x a)).Sublist S) := by
 have hl1 := hx.r
 have hl3 := hx.t
 obtain ⟨ha0, ha1⟩ := ha (by rw [hk]; rfl)
 refine ACalls.intro Tryz.func47 rfl Tryz.ntmps47 nB rfl fun X w0 => ?_
 refine rs ?_
 refine AWL.boxOp rfl rfl (B rfl) rfl (E rfl rfl) rfl (fun b5 => ?_)
 refine ya ?_
 refine rs (yf fo_98_0 ?_)
 refine yl ag_3 6 ?_
 refine AWL.callT rfl rfl (B rfl) rfl ce_65 (E rfl rfl) (evsC (E rfl rfl) evs0) (Of36 i.kind) ?_
 rintro t16 S16 rfl
 refine ym ?_
 refine Y1 (Yv.extract rfl eV rfl) ?_
 refine Y1 (Yv.extract rfl eV rfl) ?_
 refine AWL.allocOp rfl rfl (B rfl) rfl zc_137 (fun b7 => ?_)
 refine AWL.storeBox (i := 7) rfl rfl rfl ag_137 rfl (E rfl rfl) (E rfl rfl) rfl rfl nB ?_
 refine ya ?_
 refine AW.seq ?_
 refine AW.rseqQ rfl (by kernel_rfl) ?_
 refine qf fo_137_1 ?_
 refine ql ag_4 7 ?_
 refine qm ?_
 refine kT (Yv.move rfl eV) ?_
 refine kT (Yv.nilChkEp rfl (Eg rfl rfl id)) ?_
 refine kT (Yv.fieldEp rfl fo_116_3 (Eg rfl rfl id)) ?_
 refine kT (Yv.loadEp rfl ag_114 (i := 1) rfl (Eg rfl rfl id) (fun _ => rfl)) ?_
 refine kT (Yv.fieldBox rfl fo_98_2 eV) ?_
 refine kT (Yv.loadBox rfl ag_3 (i := 6) rfl (Eg rfl rfl id) rfl) ?_
 refine kT (Yv.indexRow (j := i.a.toNat) rfl ss_114 (i := 3) rfl (Eg rfl rfl id) (Eg rfl rfl id) (fun hg => ⟨(Int.toNat_of_nonneg (ha (by simpa using hg)).1).symm, by have h8 := ha (by simpa using hg); omega⟩)) ?_
 refine kT (Yv.loadEp rfl ag_4 (i := 3) rfl (Eg rfl rfl id) (fun hg => bool_at (by have h9 := ha (by simpa using hg); omega))) ?_
 refine kT (Yv.not rfl (Eg rfl rfl id)) ?_
 refine Q1 (Yv.pickAnd rfl eV (Eg rfl rfl id)) ?_
 refine qm ?_
 refine kF (Yv.fieldBox rfl fo_137_2 eV) ?_
 refine kF (Yv.loadBox rfl ag_4 (i := 7) rfl (Eg rfl rfl id) rfl) ?_
 refine kF (Yv.move rfl (Eg rfl rfl id)) ?_
 refine kT (Yv.move rfl eV) ?_
 refine kT (Yv.nilChkEp rfl (Eg rfl rfl id)) ?_
 refine kT (Yv.fieldEp rfl fo_116_3 (Eg rfl rfl id)) ?_
 refine kT (Yv.loadEp rfl ag_114 (i := 1) rfl (Eg rfl rfl id) (fun _ => rfl)) ?_
 refine kT (Yv.fieldBox rfl fo_98_3 eV) ?_
 refine kT (Yv.loadBox rfl ag_3 (i := 6) rfl (Eg rfl rfl id) rfl) ?_
 refine kT (Yv.indexRow (j := i.b.toNat) rfl ss_114 (i := 3) rfl (Eg rfl rfl id) (Eg rfl rfl id) (fun hg => ⟨(Int.toNat_of_nonneg (hb (ar hg)).1).symm, by have h8 := hb (ar hg); omega⟩)) ?_
 refine kT (Yv.loadEp rfl ag_4 (i := 3) rfl (Eg rfl rfl id) (fun hg => bool_at (by have h9 := hb (ar hg); omega))) ?_
 refine kT (Yv.not rfl (Eg rfl rfl id)) ?_
 refine kF (Yv.pickAnd rfl (Eg rfl rfl id) (Eg rfl rfl id)) ?_
 refine Q1 (Yv.pickOr (t := .const (.bool true)) rfl eV (Eg rfl rfl id)) ?_
 refine AWQ.nil ?_
 refine AW.cond rfl (fun h0t => ?_) (fun h0f => ?_)
 ·try replace h0t := odt h0t
  have hbd := rd_bad (x := x) (i := i) (by simpa using h0t)
  refine ra ?_
  refine AW.ret (retI (.tmp rfl .nil) ?_)
  rw [hbd]
  refine ⟨rfl, ?_⟩
  rw [if_neg Bool.false_ne_true]
  exact (show (([Ent.box s 75 (psD ps ob (.v (.slice (some ⟨g, 0, none⟩) 1 c))), Ent.row (some ⟨g, 0, none⟩) 1 c 116 7 (([] : List T) ++ frD x a)] ++ frE x a)).Sublist (([Ent.box s 75 (psD ps ob (.v (.slice (some ⟨g, 0, none⟩) 1 c))), Ent.row (some ⟨g, 0, none⟩) 1 c 116 7 (([] : List T) ++ frD x a)] ++ frE x a) ++ [Ent.box b5 98 (insCells i), Ent.box b7 137 (hasCells (hasF i.kind))]) from List.sublist_append_left _ _)
 try replace h0f := odf h0f
 have hr2 := rdE_ok (x := x) (i := i) (by simpa using h0f)
 refine AW.skip ?_
 refine AW.seq ?_
 refine ra ?_
 refine AW.block ?_
 refine AW.loop (fun (k : Nat) => [(0, true, pv s), (1, true, .ep (.slice (some ⟨g, 0, none⟩) 1 c) ([] : List T).length), (5, true, pv b5), (7, true, pv b7), (9, true, .v (.int .i64 (k : Int)))]) (fun (k : Nat) => (([Ent.box s 75 (psD ps ob (.v (.slice (some ⟨g, 0, none⟩) 1 c))), Ent.row (some ⟨g, 0, none⟩) 1 c 116 7 (([] : List T) ++ frD x a)] ++ frE x a) ++ [Ent.box b5 98 (insCells i), Ent.box b7 137 (hasCells (hasF i.kind))])) (fun (k : Nat) => k ≤ i.args.length ∧ ((hasF i.kind).args = true → okS x.set (i.args.take k) = true)) (fun (k : Nat) => i.args.length - k) 0 ?_ ?_ ?_ ?_
 ·exact ⟨Nat.zero_le _, fun _ => rfl⟩
 ·exact (su (su (su (su (su sn)))))
 ·rfl
 intro k ⟨hk0, hka⟩
 refine AW.seq ?_
 refine rs (ym ?_)
 refine yf fo_98_10 ?_
 refine yl ag_35 6 ?_
 refine Y1 (Yv.lenSl rfl so_35 (B rfl) eV len_args) ?_
 refine Y1 (Yv.lss rfl eV eV) ?_
 refine ym ?_
 refine gT (Yv.fieldBox rfl fo_137_3 eV) ?_
 refine gT (Yv.loadBox rfl ag_4 (i := 7) rfl (Eg rfl rfl id) rfl) ?_
 refine Y1 (Yv.pickAnd rfl eV (Eg rfl rfl id)) (nl ?_)
 refine AW.cond rfl (fun h1t => ?_) (fun h1f => ?_)
 ·try replace h1t := odt h1t
  have hk1 : k < i.args.length ∧ (hasF i.kind).args = true := by
   have h : (k : Int) < (i.args.length : Int) ∧ (hasF i.kind).args = true := by simpa using h1t
   exact ⟨by omega, h.2⟩
  have hkr := hg hk1.2 _ (getD_mem (l := i.args) hk1.1)
  refine AW.skip ?_
  refine AW.seq ?_
  refine AW.block ?_
  refine AW.rseqQ rfl (by kernel_rfl) ?_
  refine qm ?_
  refine Q1 (Yv.nilChkEp rfl eV) ?_
  refine Q1 (Yv.fieldEp rfl fo_116_3 eV) ?_
  refine Q1 (Yv.loadEp rfl ag_114 (i := 1) rfl eV (fun _ => rfl)) ?_
  refine qf fo_98_10 ?_
  refine ql ag_35 6 ?_
  refine qm ?_
  refine Q1 (Yv.indexSl rfl ss_35 (B rfl) eV eV (fun hg => ⟨rfl, (by first | omega | (simp only [len_code, len_funs, len_args, len_data, len_zw]; omega))⟩)) ?_
  refine Q1 (Yv.loadRp rfl ag_3 eV (fun hg => arg_at (by omega))) ?_
  refine Q1 (Yv.indexRow (j := (i.args.getD k default).toNat) rfl ss_114 (i := 3) rfl eV eV (fun hg => ⟨(Int.toNat_of_nonneg hkr.1).symm, by omega⟩)) ?_
  refine Q1 (Yv.loadEp rfl ag_4 (i := 3) rfl eV (fun hg => bool_at (by omega))) ?_
  refine Q1 (Yv.not rfl eV) ?_
  refine AWQ.nil ?_
  refine AW.cond rfl (fun h2t => ?_) (fun h2f => ?_)
  ·try replace h2t := odt h2t
   have hbd := rd_arg (x := x) (i := i) hk1.2 hk1.1 (by simpa using h2t)
   refine ra ?_
   refine AW.ret (retI (.tmp rfl .nil) ?_)
   rw [hbd]
   refine ⟨rfl, ?_⟩
   rw [if_neg Bool.false_ne_true]
   exact (show (([Ent.box s 75 (psD ps ob (.v (.slice (some ⟨g, 0, none⟩) 1 c))), Ent.row (some ⟨g, 0, none⟩) 1 c 116 7 (([] : List T) ++ frD x a)] ++ frE x a)).Sublist (([Ent.box s 75 (psD ps ob (.v (.slice (some ⟨g, 0, none⟩) 1 c))), Ent.row (some ⟨g, 0, none⟩) 1 c 116 7 (([] : List T) ++ frD x a)] ++ frE x a) ++ [Ent.box b5 98 (insCells i), Ent.box b7 137 (hasCells (hasF i.kind))]) from List.sublist_append_left _ _)
  try replace h2f := odf h2f
  refine AW.skip ?_
  refine AW.region ?_
  refine ym ?_
  refine Y1 (Yv.addN_i64 rfl eV eV (fun hg => by omega)) ?_
  refine ya ?_
  refine ⟨k + 1, ⟨by omega, fun h => ?_⟩, by omega, (su (su (su (su (Sub.cons rfl (by simp) Sub.nil))))), rfl⟩
  rw [take_gd hk1.1, okS_app, hka h, okS_one, Bool.true_and]
  simpa using h2f
 try replace h1f := odf h1f
 have hok := rd_all hr2 hk0 hka (by simpa using h1f)
 refine AW.exit ?_
 refine AW.seq ?_
 refine rs (yf fo_98_0 ?_)
 refine yl ag_3 6 (nl ?_)
 refine AW.block ?_
 refine rs (Y1 (Yv.eql rfl eV eV) ?_)
 refine ya ?_
 refine AW.cond rfl (fun h3t => ?_) (fun h3f => ?_)
 ·try replace h3t := odt h3t
  exfalso; omega
 try replace h3f := odf h3f
 refine rs (Y1 (Yv.eql rfl eV eV) ?_)
 refine ya ?_
 refine AW.cond rfl (fun h4t => ?_) (fun h4f => ?_)
 ·try replace h4t := odt h4t
  exfalso; omega
 try replace h4f := odf h4f
 refine rs (Y1 (Yv.eql rfl eV eV) ?_)
 refine ya ?_
 refine AW.cond rfl (fun h5t => ?_) (fun h5f => ?_)
 ·try replace h5t := odt h5t
  exfalso; omega
 try replace h5f := odf h5f
 refine rs (Y1 (Yv.eql rfl eV eV) ?_)
 refine ya ?_
 refine AW.cond rfl (fun h6t => ?_) (fun h6f => ?_)
 ·try replace h6t := odt h6t
  exfalso; omega
 try replace h6f := odf h6f
 refine rs (Y1 (Yv.eql rfl eV eV) ?_)
 refine ya ?_
 refine AW.cond rfl (fun h7t => ?_) (fun h7f => ?_)
 ·try replace h7t := odt h7t
  exfalso; omega
 try replace h7f := odf h7f
 refine rs (Y1 (Yv.eql rfl eV eV) ?_)
 refine ya ?_
 refine AW.cond rfl (fun h8t => ?_) (fun h8f => ?_)
 ·try replace h8t := odt h8t
  refine AW.rseqP rfl ?_
  refine AWP.phase [true, true, true, true, true, true, true, true, true] 1 rfl (by kernel_rfl) (by kernel_rfl) ?_
  refine qm ?_
  refine qm ?_
  refine Q1 (Yv.nilChkEp rfl eV) ?_
  refine Q1 (Yv.fieldEp rfl fo_116_2 eV) ?_
  refine Q1 (Yv.loadEp rfl ag_32 (i := 1) rfl eV (fun _ => rfl)) ?_
  refine qf fo_98_2 ?_
  refine ql ag_3 6 ?_
  refine Q1 (Yv.indexRow (j := i.a.toNat) rfl ss_32 (i := 2) rfl eV eV (fun hg => ⟨(Int.toNat_of_nonneg (by omega)).symm, by omega⟩)) ?_
  refine Q1 (Yv.loadEp rfl ag_22 (i := 2) rfl eV (fun hg => word_at (by omega))) ?_
  refine AWQ.nil ?_
  refine p1 9 ?_
  refine C1 rfl ce_69 (E rfl rfl) (evsC (E rfl rfl) (evsC (E rfl rfl) evs0)) (S1 := [Ent.box s 75 (psD ps ob (.v (.slice (some ⟨g, 0, none⟩) 1 c))), Ent.row (some ⟨g, 0, none⟩) 1 c 116 7 (frD x a)]) (S2 := _) rfl (DbackOne s g c ps ob x a (rA x i.a)) ?_
  rintro t216 S216 ⟨rfl, rfl⟩
  refine nl ?_
  refine AWP.done (by kernel_rfl) ?_
  refine ra ?_
  refine AW.ret (retI (.tmp rfl .nil) ?_)
  rw [hok]
  refine ⟨rfl, ?_⟩
  rw [if_pos rfl]
  exact (show (([Ent.box s 75 (psD (backP ps (rA x i.a)) ob (.v (.slice (some ⟨g, 0, none⟩) 1 c))), Ent.row (some ⟨g, 0, none⟩) 1 c 116 7 (([] : List T) ++ frD x a)] ++ frE x a)).Sublist (([Ent.box s 75 (psD (backP ps (rA x i.a)) ob (.v (.slice (some ⟨g, 0, none⟩) 1 c))), Ent.row (some ⟨g, 0, none⟩) 1 c 116 7 (([] : List T) ++ frD x a)] ++ frE x a) ++ [Ent.box b5 98 (insCells i), Ent.box b7 137 (hasCells (hasF i.kind))]) from List.sublist_append_left _ _)
 try replace h8f := odf h8f
 exfalso; omega

theorem pR2 {X Y E B : St} : ((X ++ Y) ++ (E ++ B)).Perm (((X ++ E) ++ Y) ++ B) := by
 rw [List.append_assoc, List.append_assoc, List.append_assoc]
 exact (List.perm_append_comm_assoc Y E B).append_left X
set_option maxHeartbeats 16000000 in
theorem DstepRM_ (s g c k : Nat) (ps : PS) (ob : Bool) (pre : List T) (y : Fr) (b : FA) (x : Fr) (a : FA) (i : Ins) (hpre : pre.length = k * 7) (hk7 : k ≤ 1048576) (hy : FrOk y) (hd : 0 ≤ x.d ∧ x.d < (y.nr : Int)) (hx : FrOk x) (hk : i.kind = 26) (ha : (hasF i.kind).a = true → 0 ≤ i.a ∧ i.a < (x.nr : Int)) (hb : (hasF i.kind).b = true → 0 ≤ i.b ∧ i.b < (x.nr : Int)) (hg : (hasF i.kind).args = true → ∀ r ∈ i.args, 0 ≤ r ∧ r < (x.nr : Int)) (hgl : i.args.length ≤ 1048576) :
    ACalls Tryz.prog 47 [pv s, .ep (.slice (some ⟨g, 0, none⟩) (k + 2) c) (pre ++ frD y b).length, .agg (insCells i)] (([Ent.box s 75 (psD ps ob (.v (.slice (some ⟨g, 0, none⟩) (k + 2) c))), Ent.row (some ⟨g, 0, none⟩) (k + 2) c 116 7 (pre ++ frD y b ++ frD x a)] ++ frE x a) ++ frE y b) (fun t S => (okS x.set (readsF i) = false ∧ t = bv false ∧ ((([Ent.box s 75 (psD ps ob (.v (.slice (some ⟨g, 0, none⟩) (k + 2) c))), Ent.row (some ⟨g, 0, none⟩) (k + 2) c 116 7 (pre ++ frD y b ++ frD x a)] ++ frE x a) ++ frE y b)).Sublist S) ∨ (okS x.set (readsF i) = true ∧ t = bv true ∧ (([Ent.box s 75 (psD ps ob (.v (.slice (some ⟨g, 0, none⟩) (k + 1) c))), Ent.row (some ⟨g, 0, none⟩) (k + 1) c 116 7 (pre ++ frD y b)] ++ frE (setD y x.d (rA x i.a)) b)).Sublist S)) := by
 have hl1 := hx.r
 have hl3 := hx.t
 obtain ⟨ha0, ha1⟩ := ha (by rw [hk]; rfl)
 refine ACalls.intro Tryz.func47 rfl Tryz.ntmps47 nB rfl fun X w0 => ?_
 refine rs ?_
 refine AWL.boxOp rfl rfl (B rfl) rfl (E rfl rfl) rfl (fun b5 => ?_)
 refine ya ?_
 refine rs (yf fo_98_0 ?_)
 refine yl ag_3 10 ?_
 refine AWL.callT rfl rfl (B rfl) rfl ce_65 (E rfl rfl) (evsC (E rfl rfl) evs0) (Of36 i.kind) ?_
 rintro t16 S16 rfl
 refine ym ?_
 refine Y1 (Yv.extract rfl eV rfl) ?_
 refine Y1 (Yv.extract rfl eV rfl) ?_
 refine AWL.allocOp rfl rfl (B rfl) rfl zc_137 (fun b7 => ?_)
 refine AWL.storeBox (i := 11) rfl rfl rfl ag_137 rfl (E rfl rfl) (E rfl rfl) rfl rfl nB ?_
 refine ya ?_
 refine AW.seq ?_
 refine AW.rseqQ rfl (by kernel_rfl) ?_
 refine qf fo_137_1 ?_
 refine ql ag_4 11 ?_
 refine qm ?_
 refine kT (Yv.move rfl eV) ?_
 refine kT (Yv.nilChkEp rfl (Eg rfl rfl id)) ?_
 refine kT (Yv.fieldEp rfl fo_116_3 (Eg rfl rfl id)) ?_
 refine kT (Yv.loadEp rfl ag_114 (i := 1) rfl (Eg rfl rfl id) (fun hg => fd3)) ?_
 refine kT (Yv.fieldBox rfl fo_98_2 eV) ?_
 refine kT (Yv.loadBox rfl ag_3 (i := 10) rfl (Eg rfl rfl id) rfl) ?_
 refine kT (Yv.indexRow (j := i.a.toNat) rfl ss_114 (i := 3) rfl (Eg rfl rfl id) (Eg rfl rfl id) (fun hg => ⟨(Int.toNat_of_nonneg (ha (by simpa using hg)).1).symm, by have h8 := ha (by simpa using hg); omega⟩)) ?_
 refine kT (Yv.loadEp rfl ag_4 (i := 3) rfl (Eg rfl rfl id) (fun hg => bool_at (by have h9 := ha (by simpa using hg); omega))) ?_
 refine kT (Yv.not rfl (Eg rfl rfl id)) ?_
 refine Q1 (Yv.pickAnd rfl eV (Eg rfl rfl id)) ?_
 refine qm ?_
 refine kF (Yv.fieldBox rfl fo_137_2 eV) ?_
 refine kF (Yv.loadBox rfl ag_4 (i := 11) rfl (Eg rfl rfl id) rfl) ?_
 refine kF (Yv.move rfl (Eg rfl rfl id)) ?_
 refine kT (Yv.move rfl eV) ?_
 refine kT (Yv.nilChkEp rfl (Eg rfl rfl id)) ?_
 refine kT (Yv.fieldEp rfl fo_116_3 (Eg rfl rfl id)) ?_
 refine kT (Yv.loadEp rfl ag_114 (i := 1) rfl (Eg rfl rfl id) (fun hg => fd3)) ?_
 refine kT (Yv.fieldBox rfl fo_98_3 eV) ?_
 refine kT (Yv.loadBox rfl ag_3 (i := 10) rfl (Eg rfl rfl id) rfl) ?_
 refine kT (Yv.indexRow (j := i.b.toNat) rfl ss_114 (i := 3) rfl (Eg rfl rfl id) (Eg rfl rfl id) (fun hg => ⟨(Int.toNat_of_nonneg (hb (ar hg)).1).symm, by have h8 := hb (ar hg); omega⟩)) ?_
 refine kT (Yv.loadEp rfl ag_4 (i := 3) rfl (Eg rfl rfl id) (fun hg => bool_at (by have h9 := hb (ar hg); omega))) ?_
 refine kT (Yv.not rfl (Eg rfl rfl id)) ?_
 refine kF (Yv.pickAnd rfl (Eg rfl rfl id) (Eg rfl rfl id)) ?_
 refine Q1 (Yv.pickOr (t := .const (.bool true)) rfl eV (Eg rfl rfl id)) ?_
 refine AWQ.nil ?_
 refine AW.cond rfl (fun h0t => ?_) (fun h0f => ?_)
 ·try replace h0t := odt h0t
  have hbd := rd_bad (x := x) (i := i) (by simpa using h0t)
  refine ra ?_
  refine AW.ret (retI (.tmp rfl .nil) ?_)
  exact .inl ⟨hbd, rfl, List.sublist_append_left _ _⟩
 try replace h0f := odf h0f
 have hr2 := rdE_ok (x := x) (i := i) (by simpa using h0f)
 refine AW.skip ?_
 refine AW.seq ?_
 refine ra ?_
 refine AW.block ?_
 refine AW.loop (fun (q0 : Nat) => [(0, true, pv s), (1, true, .ep (.slice (some ⟨g, 0, none⟩) (k + 2) c) (pre ++ frD y b).length), (5, true, pv b5), (7, true, pv b7), (9, true, .v (.int .i64 (q0 : Int)))]) (fun (q0 : Nat) => ((([Ent.box s 75 (psD ps ob (.v (.slice (some ⟨g, 0, none⟩) (k + 2) c))), Ent.row (some ⟨g, 0, none⟩) (k + 2) c 116 7 (pre ++ frD y b ++ frD x a)] ++ frE x a) ++ frE y b) ++ [Ent.box b5 98 (insCells i), Ent.box b7 137 (hasCells (hasF i.kind))])) (fun (q0 : Nat) => q0 ≤ i.args.length ∧ ((hasF i.kind).args = true → okS x.set (i.args.take q0) = true)) (fun (q0 : Nat) => i.args.length - q0) 0 ?_ ?_ ?_ ?_
 ·exact ⟨Nat.zero_le _, fun _ => rfl⟩
 ·exact (su (su (su (su (su sn)))))
 ·rfl
 intro q0 ⟨hk0, hka⟩
 refine AW.seq ?_
 refine rs (ym ?_)
 refine yf fo_98_10 ?_
 refine yl ag_35 10 ?_
 refine Y1 (Yv.lenSl rfl so_35 (B rfl) eV len_args) ?_
 refine Y1 (Yv.lss rfl eV eV) ?_
 refine ym ?_
 refine gT (Yv.fieldBox rfl fo_137_3 eV) ?_
 refine gT (Yv.loadBox rfl ag_4 (i := 11) rfl (Eg rfl rfl id) rfl) ?_
 refine Y1 (Yv.pickAnd rfl eV (Eg rfl rfl id)) (nl ?_)
 refine AW.cond rfl (fun h1t => ?_) (fun h1f => ?_)
 ·try replace h1t := odt h1t
  have hk1 : q0 < i.args.length ∧ (hasF i.kind).args = true := by
   have h : (q0 : Int) < (i.args.length : Int) ∧ (hasF i.kind).args = true := by simpa using h1t
   exact ⟨by omega, h.2⟩
  have hkr := hg hk1.2 _ (getD_mem (l := i.args) hk1.1)
  refine AW.skip ?_
  refine AW.seq ?_
  refine AW.block ?_
  refine AW.rseqQ rfl (by kernel_rfl) ?_
  refine qm ?_
  refine Q1 (Yv.nilChkEp rfl eV) ?_
  refine Q1 (Yv.fieldEp rfl fo_116_3 eV) ?_
  refine Q1 (Yv.loadEp rfl ag_114 (i := 1) rfl eV (fun hg => fd3)) ?_
  refine qf fo_98_10 ?_
  refine ql ag_35 10 ?_
  refine qm ?_
  refine Q1 (Yv.indexSl rfl ss_35 (B rfl) eV eV (fun hg => ⟨rfl, (by first | omega | (simp only [len_code, len_funs, len_args, len_data, len_zw]; omega))⟩)) ?_
  refine Q1 (Yv.loadRp rfl ag_3 eV (fun hg => arg_at (by omega))) ?_
  refine Q1 (Yv.indexRow (j := (i.args.getD q0 default).toNat) rfl ss_114 (i := 3) rfl eV eV (fun hg => ⟨(Int.toNat_of_nonneg hkr.1).symm, by omega⟩)) ?_
  refine Q1 (Yv.loadEp rfl ag_4 (i := 3) rfl eV (fun hg => bool_at (by omega))) ?_
  refine Q1 (Yv.not rfl eV) ?_
  refine AWQ.nil ?_
  refine AW.cond rfl (fun h2t => ?_) (fun h2f => ?_)
  ·try replace h2t := odt h2t
   have hbd := rd_arg (x := x) (i := i) hk1.2 hk1.1 (by simpa using h2t)
   refine ra ?_
   refine AW.ret (retI (.tmp rfl .nil) ?_)
   exact .inl ⟨hbd, rfl, List.sublist_append_left _ _⟩
  try replace h2f := odf h2f
  refine AW.skip ?_
  refine AW.region ?_
  refine ym ?_
  refine Y1 (Yv.addN_i64 rfl eV eV (fun hg => by omega)) ?_
  refine ya ?_
  refine ⟨q0 + 1, ⟨by omega, fun h => ?_⟩, by omega, (su (su (su (su (Sub.cons rfl (by simp) Sub.nil))))), rfl⟩
  rw [take_gd hk1.1, okS_app, hka h, okS_one, Bool.true_and]
  simpa using h2f
 try replace h1f := odf h1f
 have hok := rd_all hr2 hk0 hka (by simpa using h1f)
 refine AW.exit ?_
 refine AW.seq ?_
 refine rs (yf fo_98_0 ?_)
 refine yl ag_3 10 (nl ?_)
 refine AW.block ?_
 refine rs (Y1 (Yv.eql rfl eV eV) ?_)
 refine ya ?_
 refine AW.cond rfl (fun h3t => ?_) (fun h3f => ?_)
 ·try replace h3t := odt h3t
  exfalso; omega
 try replace h3f := odf h3f
 refine rs (Y1 (Yv.eql rfl eV eV) ?_)
 refine ya ?_
 refine AW.cond rfl (fun h4t => ?_) (fun h4f => ?_)
 ·try replace h4t := odt h4t
  exfalso; omega
 try replace h4f := odf h4f
 refine rs (Y1 (Yv.eql rfl eV eV) ?_)
 refine ya ?_
 refine AW.cond rfl (fun h5t => ?_) (fun h5f => ?_)
 ·try replace h5t := odt h5t
  exfalso; omega
 try replace h5f := odf h5f
 refine rs (Y1 (Yv.eql rfl eV eV) ?_)
 refine ya ?_
 refine AW.cond rfl (fun h6t => ?_) (fun h6f => ?_)
 ·try replace h6t := odt h6t
  exfalso; omega
 try replace h6f := odf h6f
 refine rs (Y1 (Yv.eql rfl eV eV) ?_)
 refine ya ?_
 refine AW.cond rfl (fun h7t => ?_) (fun h7f => ?_)
 ·try replace h7t := odt h7t
  exfalso; omega
 try replace h7f := odf h7f
 refine rs (Y1 (Yv.eql rfl eV eV) ?_)
 refine ya ?_
 refine AW.cond rfl (fun h8t => ?_) (fun h8f => ?_)
 ·try replace h8t := odt h8t
  refine AW.rseqP rfl ?_
  refine AWP.phase [true, true, true, true, true, true, true, true, true] 1 rfl (by kernel_rfl) (by kernel_rfl) ?_
  refine qm ?_
  refine qm ?_
  refine Q1 (Yv.nilChkEp rfl eV) ?_
  refine Q1 (Yv.fieldEp rfl fo_116_2 eV) ?_
  refine Q1 (Yv.loadEp rfl ag_32 (i := 1) rfl eV (fun hg => fd2)) ?_
  refine qf fo_98_2 ?_
  refine ql ag_3 10 ?_
  refine Q1 (Yv.indexRow (j := i.a.toNat) rfl ss_32 (i := 2) rfl eV eV (fun hg => ⟨(Int.toNat_of_nonneg (by omega)).symm, by omega⟩)) ?_
  refine Q1 (Yv.loadEp rfl ag_22 (i := 2) rfl eV (fun hg => word_at (by omega))) ?_
  refine AWQ.nil ?_
  refine p1 9 ?_
  refine AWL.perm (S' := ([Ent.box s 75 (psD ps ob (.v (.slice (some ⟨g, 0, none⟩) (k + 2) c))), Ent.row (some ⟨g, 0, none⟩) (k + 2) c 116 7 (pre ++ frD y b ++ frD x a)] ++ frE y b) ++ (frE x a ++ [Ent.box b5 98 (insCells i), Ent.box b7 137 (hasCells (hasF i.kind))])) pR2 ?_
  refine C1 rfl ce_69 (E rfl rfl) (evsC (E rfl rfl) (evsC (E rfl rfl) evs0)) (S1 := ([Ent.box s 75 (psD ps ob (.v (.slice (some ⟨g, 0, none⟩) (k + 2) c))), Ent.row (some ⟨g, 0, none⟩) (k + 2) c 116 7 (pre ++ frD y b ++ frD x a)] ++ frE y b)) (S2 := _) rfl (DbackMore s g c k ps ob pre y b x a (rA x i.a) hpre hk7 hy hd) ?_
  rintro t216 S216 ⟨rfl, rfl⟩
  refine nl ?_
  refine AWP.done (by kernel_rfl) ?_
  refine ra ?_
  refine AW.ret (retI (.tmp rfl .nil) ?_)
  exact .inr ⟨hok, rfl, List.sublist_append_left _ _⟩
 try replace h8f := odf h8f
 exfalso; omega

end Go.Proofs.YtpgbpdnmjeoeoaaGreat

namespace Go.Proofs.YtpgbpdnmjeoeoaaGreat
open Go Go.RowKit

theorem pmI {X B M R : Ent} {W : St} : (B :: ((X :: [M]) ++ (R :: W))).Perm ([X, B, M, R] ++ W) := List.Perm.swap X B _
theorem pmH {P E M : St} {R : Ent} : ([R] ++ (P ++ (E ++ M))).Perm (P ++ (E ++ (R :: M))) := by
 show (R :: (P ++ (E ++ M))).Perm (P ++ (E ++ (R :: M)))
 refine List.Perm.trans (List.perm_middle (a := R) (l₁ := P) (l₂ := E ++ M)).symm ?_
 exact (List.perm_middle (a := R) (l₁ := E) (l₂ := M)).symm.append_left P
set_option maxHeartbeats 16000000 in
theorem DNew35 (p : Prog) (heap : Wd64) (strict : Bool) (db : Nat) (hp : ProgIn p) (hok : ProgOk p) :
    ACalls Tryz.prog 20 [.agg (progCells p), zw heap, bv strict, pv db] [] (fun t S => ∃ b20 b18 gl c bs g c2 a l, t = .v (.pointer (some ⟨b20, 0, none⟩)) ∧ bs.length = p.funs.length ∧ PgOk l ∧ getM l = initM p ∧ S = [Ent.row (some ⟨gl, 0, none⟩) p.funs.length c 99 1 (bs.map mapT)] ++ (([Ent.box b20 75 (psD (psN p (.v (.slice (some ⟨gl, 0, none⟩) p.funs.length c)) heap strict (.v (.pointer (some ⟨db, 0, none⟩))) (.v (.map (some b18)))) false (.v (.slice (some ⟨g, 0, none⟩) 1 c2))), Ent.row (some ⟨g, 0, none⟩) 1 c2 116 7 (([] : List T) ++ frD (newX p) a)] ++ frE (newX p) a) ++ (memE 121 b18 l ++ mapsE bs p.funs))) := by
 have hpf := hp.funs
 have hdl := hp.data
 have hf1 := fn_regs hok hok.some
 have hf0 := hok.some
 refine ACalls.intro Tryz.func20 rfl Tryz.ntmps20 nB rfl fun X w0 => ?_
 refine rs ?_
 refine AWL.boxOp rfl rfl (B rfl) rfl (E rfl rfl) rfl (fun b4 => ?_)
 refine ya ?_
 refine rs (Y1 (Yv.loadBoxA rfl ag_56 (i := 0) rfl eV rfl rfl) ?_)
 refine ym ?_
 refine ym ?_
 refine ym ?_
 refine AWL.makeMapOp rfl rfl (B rfl) rfl (fun b18 => ?_)
 refine Y1 (Yv.buildS rfl sh_75 (evpC eV (evpC eV (evpC eV (evpC eV (evpC eV evp0))))) (fun _ => rfl)) ?_
 refine AWL.boxOp rfl rfl (B rfl) rfl (E rfl rfl) rfl (fun b20 => ?_)
 refine ya ?_
 refine AW.rowNil 99 1 ?_
 refine AW.perm (S' := [Ent.box b20 75 (psD (psN p (.v (.slice none 0 0)) heap strict (.v (.pointer (some ⟨db, 0, none⟩))) (.v (.map (some b18)))) false (.v (.slice none 0 0))), Ent.box b4 56 (progCells p), Ent.map b18 [], Ent.row none 0 0 99 1 (([] : List Nat).map mapT)] ++ mapsE [] (p.funs.take 0)) pmN ?_
 refine AW.seq ?_
 refine ra ?_
 refine AW.block ?_
 refine AW.loop4 (fun (j : Nat) (bs : List Nat) (A : Option Addr) (c : Nat) => [(4, true, pv b4), (9, true, pv b20), (10, true, .v (.int .i64 (j : Int)))]) (fun (j : Nat) (bs : List Nat) (A : Option Addr) (c : Nat) => ([Ent.box b20 75 (psD (psN p (.v (.slice A j c)) heap strict (.v (.pointer (some ⟨db, 0, none⟩))) (.v (.map (some b18)))) false (.v (.slice none 0 0))), Ent.box b4 56 (progCells p), Ent.map b18 [], Ent.row A j c 99 1 (bs.map mapT)] ++ mapsE bs (p.funs.take j))) (fun (j : Nat) (bs : List Nat) (A : Option Addr) (c : Nat) => j ≤ p.funs.length ∧ bs.length = j) (fun (j : Nat) (bs : List Nat) (A : Option Addr) (c : Nat) => p.funs.length - j) 0 ([]) none 0 ?_ ?_ ?_ ?_
 ·exact ⟨Nat.zero_le _, rfl⟩
 ·exact (su (su (su sn)))
 ·rfl
 intro j bs A c hinv
 obtain ⟨hj, hbs⟩ := hinv
 refine AW.seq ?_
 refine rs (ym ?_)
 refine yf fo_56_0 ?_
 refine yl ag_53 1 ?_
 refine Y1 (Yv.lenSl rfl so_53 (B rfl) eV len_funs) ?_
 refine Y1 (Yv.lss rfl eV eV) (nl ?_)
 refine AW.cond rfl (fun h0t => ?_) (fun h0f => ?_)
 ·try replace h0t := odt h0t
  have hjl : j < p.funs.length := by omega
  have hfc := (hp.fn _ (getD_mem hjl)).code
  refine AW.skip ?_
  refine AW.seq ?_
  refine AW.block ?_
  refine rs (yf fo_56_0 ?_)
  refine yl ag_53 1 ?_
  refine ym ?_
  refine Y1 (Yv.indexSl rfl ss_53 (B rfl) eV eV (fun hg => ⟨rfl, (by first | omega | (simp only [len_code, len_funs, len_args, len_data]; omega))⟩)) ?_
  refine Y1 (Yv.loadRpA rfl ag_93 eV (fun hg => fn_cells (by omega))) ?_
  refine C1 rfl ce_38 (E rfl rfl) (evsC (E rfl rfl) evs0) (S1 := []) (S2 := _) rfl (Labels22 (p.funs.getD j default) hfc) ?_
  rintro t34 S34 ⟨m1, w1, rfl, rfl⟩
  refine ym ?_
  refine Y1 (Yv.extract rfl eV rfl) ?_
  refine Y1 (Yv.extract rfl eV rfl) ?_
  refine Y1 (Yv.assign rfl eV) ?_
  refine ya ?_
  refine AW.dropAt 0 ?_
  refine AW.perm (S' := ([Ent.box b20 75 (psD (psN p (.v (.slice A j c)) heap strict (.v (.pointer (some ⟨db, 0, none⟩))) (.v (.map (some b18)))) false (.v (.slice none 0 0))), Ent.box b4 56 (progCells p), Ent.map b18 [], Ent.row A j c 99 1 (bs.map mapT)] ++ mapsE bs (p.funs.take j)) ++ [.map w1 (lmT (whL (p.funs.getD j default).code))]) List.perm_append_comm ?_
  refine AW.region ?_
  refine ym ?_
  refine ym ?_
  refine Y1 (Yv.nilChk rfl eV) ?_
  refine yf fo_75_1 ?_
  refine yl ag_71 0 ?_
  refine ym ?_
  refine AWL.buildSlice1 rfl rfl (B rfl) rfl el_71 rfl (evsC (E rfl rfl) evs0) nB rfl rfl ?_
  refine AWL.appendRow (i := 3) rfl rfl (B rfl) rfl el_71 (B rfl) rfl (E rfl rfl) (SrcT.sl so_71 (B rfl) (E rfl rfl) rfl) (by unfold maxLen; omega) (by omega) (fun A44 c44 => ?_)
  refine Y1 (Yv.nilChk rfl eV) ?_
  refine yf fo_75_1 ?_
  refine AWL.storeBox (i := 0) rfl rfl rfl ag_71 rfl (E rfl rfl) (E rfl rfl) rfl rfl nB (nl ?_)
  refine AW.eqS (S' := ([Ent.box b20 75 (psD (psN p (.v (.slice A44 (j + 1) c44)) heap strict (.v (.pointer (some ⟨db, 0, none⟩))) (.v (.map (some b18)))) false (.v (.slice none 0 0))), Ent.box b4 56 (progCells p), Ent.map b18 [], Ent.row A44 (j + 1) c44 99 1 ((bs ++ [w1]).map mapT)] ++ mapsE bs (p.funs.take j)) ++ [.map w1 (lmT (whL (p.funs.getD j default).code))]) (by rw [List.map_append]; rfl) ?_
  refine AW.region ?_
  refine ym ?_
  refine Y1 (Yv.addN_i64 rfl eV eV (fun hg => by omega)) ?_
  refine ya ?_
  refine ⟨j + 1, bs ++ [w1], A44, c44, ⟨by omega, by rw [List.length_append, hbs]; rfl⟩, by omega, (su (su (Sub.cons rfl (by simp) Sub.nil))), ?_⟩
  rw [mapsE_succ hjl hbs, ← List.append_assoc]
 try replace h0f := odf h0f
 obtain rfl : j = p.funs.length := by omega
 refine AW.exit ?_
 refine AW.seq ?_
 rw [List.take_length]
 refine AW.perm (S' := Ent.box b4 56 (progCells p) :: ((Ent.box b20 75 (psD (psN p (.v (.slice A p.funs.length c)) heap strict (.v (.pointer (some ⟨db, 0, none⟩))) (.v (.map (some b18)))) false (.v (.slice none 0 0))) :: memE 121 b18 []) ++ (Ent.row A p.funs.length c 99 1 (bs.map mapT) :: mapsE bs p.funs))) pmI ?_
 refine ra ?_
 refine AW.block ?_
 refine AW.loop2 (fun (i : Nat) (l : List Pg) => [(4, true, pv b4), (9, true, pv b20), (13, true, .v (.int .i64 (i : Int)))]) (fun (i : Nat) (l : List Pg) => (Ent.box b4 56 (progCells p) :: ((Ent.box b20 75 (psD (psN p (.v (.slice A p.funs.length c)) heap strict (.v (.pointer (some ⟨db, 0, none⟩))) (.v (.map (some b18)))) false (.v (.slice none 0 0))) :: memE 121 b18 l) ++ (Ent.row A p.funs.length c 99 1 (bs.map mapT) :: mapsE bs p.funs)))) (fun (i : Nat) (l : List Pg) => i ≤ p.data.length ∧ PgOk l ∧ getM l = putsN (fun _ => 0) 268435456#64 p.data i) (fun (i : Nat) (l : List Pg) => p.data.length - i) 0 ([]) ?_ ?_ ?_ ?_
 ·exact ⟨Nat.zero_le _, fun j hj => absurd hj (Nat.not_lt_zero j), rfl⟩
 ·exact (su (su (su sn)))
 ·rfl
 intro i l ⟨hi0, hl, hgl⟩
 refine AW.seq ?_
 refine rs (ym ?_)
 refine yf fo_56_1 ?_
 refine yl ag_54 0 ?_
 refine Y1 (Yv.lenSl rfl so_54 (B rfl) eV len_data) ?_
 refine Y1 (Yv.lss rfl eV eV) (nl ?_)
 refine AW.cond rfl (fun h1t => ?_) (fun h1f => ?_)
 ·try replace h1t := odt h1t
  refine AW.skip ?_
  refine AW.seq ?_
  refine AW.block ?_
  refine AW.region ?_
  refine ym ?_
  refine ym ?_
  refine Y1 (Yv.convW rfl Tryz.underlying3 kd_22 eV) ?_
  refine Y1 (Yv.addW (a := 268435456#64) rfl eV eV) ?_
  refine yf fo_56_1 ?_
  refine yl ag_54 0 ?_
  refine ym ?_
  refine Y1 (Yv.indexSl rfl ss_54 (B rfl) eV eV (fun hg => ⟨rfl, (by first | omega | (simp only [len_code, len_funs, len_args, len_data]; omega))⟩)) ?_
  refine Y1 (Yv.loadRp rfl ag_5 eV (fun hg => data_at (by omega))) ?_
  refine AWL.callF rfl rfl (B rfl) rfl ce_29 (E rfl rfl) (evsC (E rfl rfl) (evsC (E rfl rfl) (evsC (E rfl rfl) evs0))) (F1 := [Ent.box b4 56 (progCells p)]) (S1 := (Ent.box b20 75 (psD (psN p (.v (.slice A p.funs.length c)) heap strict (.v (.pointer (some ⟨db, 0, none⟩))) (.v (.map (some b18)))) false (.v (.slice none 0 0))) :: memE 121 b18 l)) (F2 := (Ent.row A p.funs.length c 99 1 (bs.map mapT) :: mapsE bs p.funs)) rfl (Dput46 b20 b18 (psN p (.v (.slice A p.funs.length c)) heap strict (.v (.pointer (some ⟨db, 0, none⟩))) (.v (.map (some b18)))) false (.v (.slice none 0 0)) l rfl hl (268435456#64 + wI (i : Int)) (p.data.getD i 0)) ?_
  rintro t63 S63 ⟨rfl, l3, rfl, hl3, hg3⟩
  refine nl ?_
  refine AW.region ?_
  refine ym ?_
  refine Y1 (Yv.addN_i64 rfl eV eV (fun hg => by omega)) ?_
  refine ya ?_
  refine ⟨i + 1, l3, ⟨by omega, hl3, by rw [hg3, hgl]; rfl⟩, by omega, (su (su (Sub.cons rfl (by simp) Sub.nil))), rfl⟩
 try replace h1f := odf h1f
 obtain rfl : i = p.data.length := by omega
 refine AW.exit ?_
 refine AW.dropAt 0 ?_
 refine AW.rowNil 116 7 ?_
 refine AW.perm (S' := [Ent.box b20 75 (psD (psN p (.v (.slice A p.funs.length c)) heap strict (.v (.pointer (some ⟨db, 0, none⟩))) (.v (.map (some b18)))) false (.v (.slice none 0 0))), Ent.row none 0 0 116 7 []] ++ (memE 121 b18 l ++ (Ent.row A p.funs.length c 99 1 (bs.map mapT) :: mapsE bs p.funs))) pmE ?_
 refine rs (ym ?_)
 refine C1 rfl ce_40 (E rfl rfl) (evsC (E rfl rfl) (evsC (E rfl rfl) (evsC (E rfl rfl) (evsC (E rfl rfl) evs0)))) (S1 := [Ent.box b20 75 (psD (psN p (.v (.slice A p.funs.length c)) heap strict (.v (.pointer (some ⟨db, 0, none⟩))) (.v (.map (some b18)))) false (.v (.slice none 0 0))), Ent.row none 0 0 116 7 []]) (S2 := _) rfl ((Dopen43 b20 (psN p (.v (.slice A p.funs.length c)) heap strict (.v (.pointer (some ⟨db, 0, none⟩))) (.v (.map (some b18)))) false 0 [] 0 none 0 0 [] hok.some hpf hf1.1 hf1.2.1 hf1.2.2.1 hf1.2.2.2 hf1.1 (by omega)).le (Les.cons .refl (.cons .refl (.cons (nil_le 1) .refl)))) ?_
 rintro t65 S65 ⟨rfl, g, c2, a, rfl⟩
 refine nl ?_
 refine AW.perm (S' := [Ent.row A p.funs.length c 99 1 (bs.map mapT)] ++ (([Ent.box b20 75 (psD (psN p (.v (.slice A p.funs.length c)) heap strict (.v (.pointer (some ⟨db, 0, none⟩))) (.v (.map (some b18)))) false (.v (.slice (some ⟨g, 0, none⟩) 1 c2))), Ent.row (some ⟨g, 0, none⟩) 1 c2 116 7 (([] : List T) ++ frD (newX p) a)] ++ frE (newX p) a) ++ (memE 121 b18 l ++ mapsE bs p.funs))) pmH ?_
 refine AW.rowSome 0 rfl (by omega) (fun gl hgl => ?_)
 subst hgl
 refine rs (ym ?_)
 refine ya ?_
 refine AW.ret (retI (.tmp rfl .nil) ?_)
 refine ⟨b20, b18, gl, c, bs, g, c2, a, l, rfl, hbs, hl, hgl, ?_⟩
 rfl

end Go.Proofs.YtpgbpdnmjeoeoaaGreat

namespace Go.Proofs.YtpgbpdnmjeoeoaaGreat
open Go Go.RowKit
section
variable {RF : Int → Wd64 → Wd64 → Wd64} {p : Prog} {m m' q q' : Mc}
theorem runM_stop (h : m.c.st ≠ 0) (n : Nat) : runM RF n m = m := by
 cases n with
 | zero => rfl
 | succ n => rw [runM, if_pos h]
theorem run_ok (hp : ProgOk p) (hpf : p.funs.length ≤ 1048576) (n : Nat) : ∀ {m : Mc}, MOk p m → MOk p (runM RF n m) ∧ m.c.steps ≤ (runM RF n m).c.steps ∧ (runM RF n m).c.steps ≤ m.c.steps + n ∧ (runM RF n m).c.heap = m.c.heap ∧ (runM RF n m).c.strict = m.c.strict := by
 induction n with
 | zero => intro m hm; exact ⟨hm, Int.le_refl _, by show m.c.steps ≤ m.c.steps + 0; omega, rfl, rfl⟩
 | succ n ih =>
  intro m hm
  rw [runM]
  by_cases h : m.c.st ≠ 0
  ·rw [if_pos h]; exact ⟨hm, Int.le_refl _, by omega, rfl, rfl⟩
  ·rw [if_neg h]
   have ha := hm.adv hp
   have h19 : (insOf p (advM m).x).kind ≠ 19 := by
    show (insOf p (advF m.c.prog m.x)).kind ≠ 19
    rw [hm.prog]; exact (adv_in hp hm.top).2
   rw [hm.prog]
   cases hs : stepM RF (advM m) (insOf p (advM m).x) with
   | none => exact ⟨ha.stuck, Int.le_refl _, by show m.c.steps ≤ m.c.steps + ((n + 1 : Nat) : Int); omega, rfl, rfl⟩
   | some q =>
    obtain ⟨h1, h2⟩ := step_ok hp hpf ha h19 hs
    obtain ⟨k1, k2, k3, k4, k5⟩ := ih h1.tick
    have e1 : q.c.steps = m.c.steps := h2.steps
    have e2 : (tickC q).c.steps = m.c.steps + 1 := by show q.c.steps + 1 = _; rw [e1]
    rw [e2] at k2 k3
    exact ⟨k1, by show m.c.steps ≤ (runM RF n (tickC q)).c.steps; omega, by show (runM RF n (tickC q)).c.steps ≤ _; omega, k4.trans h2.heap, k5.trans h2.strict⟩
/-! ### strictly and not -/
structure SimF (x y : Fr) : Prop where
 is : ∃ s, y = { x with set := s } ∧ leB x.set s ∧ x.set.length = s.length
def SimL : List Fr → List Fr → Prop
 | [], [] => True
 | x :: r, y :: s => SimF x y ∧ SimL r s
 | _, _ => False
theorem SimL.len : ∀ {l l' : List Fr}, SimL l l' → l.length = l'.length
 | [], [], _ => rfl
 | [], y :: s, h => h.elim
 | x :: r, [], h => h.elim
 | x :: r, y :: s, h => by rw [List.length_cons, List.length_cons, SimL.len h.2]
end
end Go.Proofs.YtpgbpdnmjeoeoaaGreat

namespace Go.Proofs.YtpgbpdnmjeoeoaaGreat
open Go Go.RowKit
structure DLay where
 s : Nat
 gl : Nat
 lc : Nat
 pg : Nat
 db : Nat
 bs : List Nat
structure DQ where
 g : Nat
 c : Nat
 a : FA
 K : List (Fr × FA)
 l : List Pg
 ds : V.DS
 ob : Bool
def rowD : List (Fr × FA) → List T
 | [] => []
 | q :: r => rowD r ++ frD q.1 q.2
def rowsF : List (Fr × FA) → St
 | [] => []
 | q :: r => frE q.1 q.2 ++ rowsF r
theorem rowD_len : ∀ K : List (Fr × FA), (rowD K).length = K.length * 7
 | [] => rfl
 | q :: r => by rw [rowD, List.length_append, rowD_len r, frD_len, List.length_cons]; omega
def labTD (L : DLay) (p : Prog) : T := .v (.slice (some ⟨L.gl, 0, none⟩) p.funs.length L.lc)
def psLD (L : DLay) (c : Pc) : PS := psOf c (labTD L c.prog) (V.wp L.db) (mapT L.pg)
def p7 (L : DLay) (c : Pc) (ob : Bool) (x : Fr) (g cc : Nat) (a : FA) (K : List (Fr × FA)) : St :=
 [Ent.box L.s 75 (psD (psLD L c) ob (.v (.slice (some ⟨g, 0, none⟩) (K.length + 1) cc))), Ent.row (some ⟨g, 0, none⟩) (K.length + 1) cc 116 7 (rowD K ++ frD x a)] ++ frE x a
def memD (L : DLay) (l : List Pg) (ds : V.DS) : St := memE 121 L.pg l ++ V.DSt L.db ds
def labF (L : DLay) (p : Prog) : St := Ent.row (some ⟨L.gl, 0, none⟩) p.funs.length L.lc 99 1 (L.bs.map mapT) :: mapsE L.bs p.funs
def DP (L : DLay) (m : Mc) (q : DQ) : St := p7 L m.c q.ob m.x q.g q.c q.a q.K ++ (memD L q.l q.ds ++ (rowsF q.K ++ labF L m.c.prog))
structure DRel (m : Mc) (q : DQ) : Prop where
 bl : q.K.map (·.1) = m.bl
 ok : PgOk q.l
 mem : getM q.l = m.mem
 w : V.Side m.w (V.pl q.ds)
def cpD (q : DQ) : T := .ep (.slice (some ⟨q.g, 0, none⟩) (q.K.length + 1) q.c) (rowD q.K).length
section
variable {L : DLay} {p : Prog} {m : Mc} {q : DQ} {nb : Nat}
def DStepR (L : DLay) (m : Mc) (i : Ins) (t : T) (S : St) : Prop :=
 ∃ m' q', t = bv (stepM realF m i).isSome ∧ (∀ m1, stepM realF m i = some m1 → m' = m1) ∧ (stepM realF m i = none → ∃ at_, m' = { m with x := { m.x with at_ := at_ } }) ∧ DRel m' q' ∧ S = DP L m' q'
theorem DdoV (hm : MOk p m) (hp : ProgOk p) (hpi : ProgIn p) (hq : DRel m q) (hk : valK (insOf p m.x).kind ∨ (insOf p m.x).kind = 32) :
    ACalls Tryz.prog 47 [.v (.pointer (some ⟨L.s, 0, none⟩)), cpD q, .agg (insCells (insOf p m.x))] (DP L m q) (DStepR L m (insOf p m.x)) := by
 have hb := hm.top.bounds hp hpi
 have io := hm.top.ins hp
 have h1 := DstepV_ L.s q.g (q.K.length + 1) q.c (psLD L m.c) q.ob (rowD q.K) m.x q.a (insOf p m.x) hm.top.ok hk hb.a hb.b hb.slot io.real hb.d hb.args hb.len hb.at_
 refine ACalls.part (memD L q.l q.ds ++ (rowsF q.K ++ labF L m.c.prog)) (h1.less fun t S' h => ⟨_, h.2, h.1, rfl⟩) (List.Perm.refl _) (fun t S' h => ?_) (R := fun t S => t = bv (stepA realF (psLD L m.c).heap m.x (insOf p m.x)).isSome ∧ S = _)
 obtain ⟨e1, e2⟩ := h
 have hs : stepM realF m (insOf p m.x) = (stepA realF m.c.heap m.x (insOf p m.x)).map fun x => { m with x := x } := by
  have hk' := hk
  unfold valK at hk'
  exact stepV hk (by omega) (by omega)
 have hh : (psLD L m.c).heap = m.c.heap := rfl
 rw [hh] at e1 e2
 cases hA : stepA realF m.c.heap m.x (insOf p m.x) with
 | none =>
  rw [hA] at e1 e2 hs
  refine ⟨_, List.Perm.refl _, m, q, ?_, fun m1 h => ?_, fun _ => ⟨m.x.at_, rfl⟩, hq, ?_⟩
  ·rw [hs]; exact e1
  ·rw [hs] at h; cases h
  ·rw [e2]; rfl
 | some x' =>
  rw [hA] at e1 e2 hs
  refine ⟨_, List.Perm.refl _, { m with x := x' }, q, ?_, fun m1 h => ?_, fun h => ?_, ⟨hq.bl, hq.ok, hq.mem, hq.w⟩, ?_⟩
  ·rw [hs]; exact e1
  ·rw [hs] at h; cases h; rfl
  ·rw [hs] at h; cases h
  ·rw [e2]; rfl
theorem DdoJ (hm : MOk p m) (hp : ProgOk p) (hpi : ProgIn p) (hq : DRel m q) (hbs : L.bs.length = p.funs.length) (hk : (insOf p m.x).kind = 20 ∨ (insOf p m.x).kind = 21) :
    ACalls Tryz.prog 47 [.v (.pointer (some ⟨L.s, 0, none⟩)), cpD q, .agg (insCells (insOf p m.x))] (DP L m q) (DStepR L m (insOf p m.x)) := by
 have hb := hm.top.bounds hp hpi
 have hpr := hm.prog
 have h1 := DstepJ_ L.s q.g (q.K.length + 1) q.c L.gl m.c.prog.funs.length L.lc (psLD L m.c) q.ob (rowD q.K) m.x q.a (insOf p m.x) L.bs (whL (fnOf p m.x).code) hm.top.ok rfl (by rw [hpr]; exact hbs) hm.top.f0 (by rw [hpr]; exact hm.top.f1) hk hb.a hb.b hb.args hb.len hb.at_
 obtain ⟨R, hR⟩ := mapsE_at (bs := L.bs) (fs := m.c.prog.funs) (f := m.x.f.toNat) (by rw [hpr]; exact hm.top.f1) (by rw [hpr]; exact hbs)
 have hR' : (mapsE L.bs m.c.prog.funs).Perm (Ent.map (L.bs.getD m.x.f.toNat 0) (lmT (whL (fnOf p m.x).code)) :: R) := by
  unfold fnOf; rw [← hpr]; exact hR
 refine ACalls.part (memD L q.l q.ds ++ (rowsF q.K ++ R)) (h1.less fun t S' h => ⟨_, h.2, h.1, rfl⟩) (pJ (A := p7 L m.c q.ob m.x q.g q.c q.a q.K) hR') (fun t S' h => ?_) (R := fun t S => t = bv (okS m.x.set (readsF (insOf p m.x))) ∧ S = _)
 obtain ⟨e1, e2⟩ := h
 cases h0 : okS m.x.set (readsF (insOf p m.x)) with
 | false =>
  rw [h0] at e1 e2
  have hs := step_0 (RF := realF) h0
  refine ⟨DP L m q, ?_, m, q, ?_, fun m1 h => ?_, fun _ => ⟨m.x.at_, rfl⟩, hq, rfl⟩
  ·rw [e2]; exact pJ (A := p7 L m.c q.ob m.x q.g q.c q.a q.K) hR'
  ·rw [hs]; exact e1
  ·rw [hs] at h; cases h
 | true =>
  rw [h0] at e1 e2
  have hs := stepJ (RF := realF) h0 hk
  refine ⟨DP L { m with x := jmpF m.c.prog m.x (insOf p m.x) } q, ?_, { m with x := jmpF m.c.prog m.x (insOf p m.x) }, q, ?_, fun m1 h => ?_, fun h => ?_, ⟨hq.bl, hq.ok, hq.mem, hq.w⟩, rfl⟩
  ·rw [e2, if_pos rfl]
   have e3 : jmpF m.c.prog m.x (insOf p m.x) = { m.x with at_ := if (insOf p m.x).kind = 20 ∨ holdsF (insOf p m.x).cond (rA m.x (insOf p m.x).a) (rA m.x (insOf p m.x).b) = true then getL (insOf p m.x).l (whL (fnOf p m.x).code) else m.x.at_ + 1 } := by
    unfold jmpF whereOf; rw [hpr]
   rw [← e3]
   exact pJ (A := p7 L m.c q.ob (jmpF m.c.prog m.x (insOf p m.x)) q.g q.c q.a q.K) hR'
  ·rw [hs]; exact e1
  ·rw [hs] at h; cases h; rfl
  ·rw [hs] at h; cases h
theorem DdoLd (hm : MOk p m) (hp : ProgOk p) (hpi : ProgIn p) (hq : DRel m q) (hk : (insOf p m.x).kind = 17) :
    ACalls Tryz.prog 47 [.v (.pointer (some ⟨L.s, 0, none⟩)), cpD q, .agg (insCells (insOf p m.x))] (DP L m q) (DStepR L m (insOf p m.x)) := by
 have hb := hm.top.bounds hp hpi
 have hpr := hm.prog
 have h1 := DstepLd_ L.s q.g (q.K.length + 1) q.c L.pg (psLD L m.c) q.ob (rowD q.K) m.x q.a (insOf p m.x) q.l hm.top.ok rfl hq.ok (by show m.c.prog.data.length ≤ _; rw [hpr]; exact hpi.data) (by show 0 ≤ m.c.prog.zero; rw [hpr]; exact hp.zero.1) (by show m.c.prog.zero ≤ _; rw [hpr]; exact hp.zero.2) hk hb.a hb.b hb.d hb.args hb.len hb.at_
 refine ACalls.part (V.DSt L.db q.ds ++ (rowsF q.K ++ labF L m.c.prog)) (h1.less fun t S' h => ⟨_, h.2, h.1, rfl⟩) (pM (A := p7 L m.c q.ob m.x q.g q.c q.a q.K)) (fun t S' h => ?_) (R := fun t S => t = bv (okS m.x.set (readsF (insOf p m.x)) && (sizeOk (insOf p m.x).size && thereF (psData (psLD L m.c).prog) (psLD L m.c).heap (adF m.x (insOf p m.x)) (wI (insOf p m.x).size))) ∧ S = _)
 obtain ⟨e1, e2⟩ := h
 have hmo : (sizeOk (insOf p m.x).size && thereF (psData (psLD L m.c).prog) (psLD L m.c).heap (adF m.x (insOf p m.x)) (wI (insOf p m.x).size)) = memOk m.c (adF m.x (insOf p m.x)) (insOf p m.x).size := rfl
 rw [hmo] at e1 e2
 cases h0 : okS m.x.set (readsF (insOf p m.x)) with
 | false =>
  rw [h0] at e1 e2
  have hs := step_0 (RF := realF) h0
  refine ⟨DP L m q, ?_, m, q, ?_, fun m1 h => ?_, fun _ => ⟨m.x.at_, rfl⟩, hq, rfl⟩
  ·rw [e2]; exact pM (A := p7 L m.c q.ob m.x q.g q.c q.a q.K)
  ·rw [hs]; exact e1
  ·rw [hs] at h; cases h
 | true =>
  rw [h0, Bool.true_and] at e1 e2
  have hs := stepLd (RF := realF) h0 hk
  cases hmk : memOk m.c (adF m.x (insOf p m.x)) (insOf p m.x).size with
  | false =>
   rw [hmk] at e1 e2 hs
   refine ⟨DP L m q, ?_, m, q, ?_, fun m1 h => ?_, fun _ => ⟨m.x.at_, rfl⟩, hq, rfl⟩
   ·rw [e2]; exact pM (A := p7 L m.c q.ob m.x q.g q.c q.a q.K)
   ·rw [hs]; exact e1
   ·rw [hs] at h; cases h
  | true =>
   rw [hmk] at e1 e2 hs
   rw [hq.mem] at e2
   refine ⟨DP L { m with x := goF (setD m.x (insOf p m.x).d (leF m.mem (adF m.x (insOf p m.x)) (insOf p m.x).size.toNat)) } q, ?_, { m with x := goF (setD m.x (insOf p m.x).d (leF m.mem (adF m.x (insOf p m.x)) (insOf p m.x).size.toNat)) }, q, ?_, fun m1 h => ?_, fun h => ?_, ⟨hq.bl, hq.ok, hq.mem, hq.w⟩, rfl⟩
   ·rw [e2]; exact pM (A := p7 L m.c q.ob (goF (setD m.x (insOf p m.x).d (leF m.mem (adF m.x (insOf p m.x)) (insOf p m.x).size.toNat))) q.g q.c q.a q.K)
   ·rw [hs]; exact e1
   ·rw [hs] at h; cases h; rfl
   ·rw [hs] at h; cases h
theorem DdoSt (hm : MOk p m) (hp : ProgOk p) (hpi : ProgIn p) (hq : DRel m q) (hk : (insOf p m.x).kind = 18) :
    ACalls Tryz.prog 47 [.v (.pointer (some ⟨L.s, 0, none⟩)), cpD q, .agg (insCells (insOf p m.x))] (DP L m q) (DStepR L m (insOf p m.x)) := by
 have hb := hm.top.bounds hp hpi
 have hpr := hm.prog
 have h1 := DstepSt_ L.s q.g (q.K.length + 1) q.c L.pg (psLD L m.c) q.ob (rowD q.K) m.x q.a (insOf p m.x) q.l hm.top.ok rfl hq.ok (by show m.c.prog.data.length ≤ _; rw [hpr]; exact hpi.data) (by show 0 ≤ m.c.prog.zero; rw [hpr]; exact hp.zero.1) (by show m.c.prog.zero ≤ _; rw [hpr]; exact hp.zero.2) hk hb.a hb.b hb.d hb.args hb.len hb.at_
 refine ACalls.part (V.DSt L.db q.ds ++ (rowsF q.K ++ labF L m.c.prog)) (h1.less fun t S' ⟨a1, l', a2, a3, a4⟩ => ⟨_, a2, a1, l', rfl, a3, a4⟩) (pM (A := p7 L m.c q.ob m.x q.g q.c q.a q.K)) (fun t S' h => ?_) (R := fun t S => t = bv (okS m.x.set (readsF (insOf p m.x)) && (sizeOk (insOf p m.x).size && thereF (psData (psLD L m.c).prog) (psLD L m.c).heap (adF m.x (insOf p m.x)) (wI (insOf p m.x).size))) ∧ ∃ l', S = p7 L m.c q.ob (if okS m.x.set (readsF (insOf p m.x)) = true then goF m.x else m.x) q.g q.c q.a q.K ++ memE 121 L.pg l' ∧ PgOk l' ∧ getM l' = if (okS m.x.set (readsF (insOf p m.x)) && (sizeOk (insOf p m.x).size && thereF (psData (psLD L m.c).prog) (psLD L m.c).heap (adF m.x (insOf p m.x)) (wI (insOf p m.x).size))) = true then putsF (getM q.l) (adF m.x (insOf p m.x)) (rA m.x (insOf p m.x).b) (insOf p m.x).size.toNat else getM q.l)
 obtain ⟨e1, l', e2, hl', hg'⟩ := h
 have hmo : (sizeOk (insOf p m.x).size && thereF (psData (psLD L m.c).prog) (psLD L m.c).heap (adF m.x (insOf p m.x)) (wI (insOf p m.x).size)) = memOk m.c (adF m.x (insOf p m.x)) (insOf p m.x).size := rfl
 rw [hmo] at e1 hg'
 cases h0 : okS m.x.set (readsF (insOf p m.x)) with
 | false =>
  rw [h0] at e1 e2 hg'
  have hs := step_0 (RF := realF) h0
  refine ⟨DP L m { q with l := l' }, ?_, m, { q with l := l' }, ?_, fun m1 h => ?_, fun _ => ⟨m.x.at_, rfl⟩, ⟨hq.bl, hl', hg'.trans hq.mem, hq.w⟩, rfl⟩
  ·rw [e2]; exact pM (A := p7 L m.c q.ob m.x q.g q.c q.a q.K)
  ·rw [hs]; exact e1
  ·rw [hs] at h; cases h
 | true =>
  rw [h0] at e1 e2 hg'
  rw [Bool.true_and] at e1 hg'
  have hs := stepSt (RF := realF) h0 hk
  cases hmk : memOk m.c (adF m.x (insOf p m.x)) (insOf p m.x).size with
  | false =>
   rw [hmk] at e1 hg' hs
   refine ⟨DP L { m with x := goF m.x } { q with l := l' }, ?_, { m with x := goF m.x }, { q with l := l' }, ?_, fun m1 h => ?_, fun _ => ⟨m.x.at_ + 1, rfl⟩, ⟨hq.bl, hl', hg'.trans hq.mem, hq.w⟩, rfl⟩
   ·rw [e2]; exact pM (A := p7 L m.c q.ob (goF m.x) q.g q.c q.a q.K)
   ·rw [hs]; exact e1
   ·rw [hs] at h; cases h
  | true =>
   rw [hmk] at e1 hg' hs
   refine ⟨DP L { m with x := goF m.x, mem := putsF m.mem (adF m.x (insOf p m.x)) (rA m.x (insOf p m.x).b) (insOf p m.x).size.toNat } { q with l := l' }, ?_, { m with x := goF m.x, mem := putsF m.mem (adF m.x (insOf p m.x)) (rA m.x (insOf p m.x).b) (insOf p m.x).size.toNat }, { q with l := l' }, ?_, fun m1 h => ?_, fun h => ?_, ⟨hq.bl, hl', ?_, hq.w⟩, rfl⟩
   ·rw [e2]; exact pM (A := p7 L m.c q.ob (goF m.x) q.g q.c q.a q.K)
   ·rw [hs]; exact e1
   ·rw [hs] at h; cases h; rfl
   ·rw [hs] at h; cases h
   ·show getM l' = putsF m.mem _ _ _
    rw [hg', if_pos rfl, hq.mem]
theorem DdoB (hm : MOk p m) (hp : ProgOk p) (hpi : ProgIn p) (hq : DRel m q) (hk : (insOf p m.x).kind = 26) :
    ACalls Tryz.prog 47 [.v (.pointer (some ⟨L.s, 0, none⟩)), cpD q, .agg (insCells (insOf p m.x))] (DP L m q) (DStepR L m (insOf p m.x)) := by
 have hb := hm.top.bounds hp hpi
 obtain ⟨g, c, a, K, l, ds, ob⟩ := q
 cases K with
 | nil =>
  have hbl : m.bl = [] := hq.bl.symm
  have h1 := DstepR1_ L.s g c (psLD L m.c) ob m.x a (insOf p m.x) hm.top.ok hk hb.a hb.b hb.args hb.len
  refine ACalls.part (memD L l ds ++ (rowsF [] ++ labF L m.c.prog)) (h1.less fun t S' h => ⟨_, h.2, h.1, rfl⟩) (List.Perm.refl _) (fun t S' h => ?_) (R := fun t S => t = bv (okS m.x.set (readsF (insOf p m.x))) ∧ S = _)
  obtain ⟨e1, e2⟩ := h
  cases h0 : okS m.x.set (readsF (insOf p m.x)) with
  | false =>
   rw [h0] at e1 e2
   have hs := step_0 (RF := realF) h0
   refine ⟨_, List.Perm.refl _, m, ⟨g, c, a, [], l, ds, ob⟩, ?_, fun m1 h => ?_, fun _ => ⟨m.x.at_, rfl⟩, hq, ?_⟩
   ·rw [hs]; exact e1
   ·rw [hs] at h; cases h
   ·rw [e2]; rfl
  | true =>
   rw [h0] at e1 e2
   have hs := stepB (RF := realF) h0 hk
   have e3 : backM m (rA m.x (insOf p m.x).a) = { m with c := backC m.c (rA m.x (insOf p m.x).a) } := by
    unfold backM; rw [hbl]
   have hpc : (backC m.c (rA m.x (insOf p m.x).a)).prog = m.c.prog := by unfold backC; split <;> rfl
   refine ⟨_, List.Perm.refl _, { m with c := backC m.c (rA m.x (insOf p m.x).a) }, ⟨g, c, a, [], l, ds, ob⟩, ?_, fun m1 h => ?_, fun h => ?_, ⟨hq.bl, hq.ok, hq.mem, hq.w⟩, ?_⟩
   ·rw [hs]; exact e1
   ·rw [hs, e3] at h; cases h; rfl
   ·rw [hs] at h; cases h
   ·rw [e2, if_pos rfl]
    show _ = p7 L (backC m.c (rA m.x (insOf p m.x).a)) ob m.x g c a [] ++ (memD L l ds ++ (rowsF [] ++ labF L (backC m.c (rA m.x (insOf p m.x).a)).prog))
    rw [hpc]
    unfold p7 psLD
    rw [hpc, ← back_ps]; rfl
 | cons yb K' =>
  obtain ⟨y, b⟩ := yb
  have hbl : m.bl = y :: K'.map (·.1) := hq.bl.symm
  have hy : FrIn p y := hm.bl y (by rw [hbl]; exact List.mem_cons_self ..)
  have hd : 0 ≤ m.x.d ∧ m.x.d < (y.nr : Int) := by
   have h := hm.ch
   rw [hbl] at h
   exact h.1
  have hdep : K'.length ≤ 1048576 := by
   have h := hm.dep
   rw [hbl, List.length_cons, List.length_map] at h
   omega
  have h1 := DstepRM_ L.s g c K'.length (psLD L m.c) ob (rowD K') y b m.x a (insOf p m.x) (rowD_len K') hdep hy.ok hd hm.top.ok hk hb.a hb.b hb.args hb.len
  refine ACalls.part (memD L l ds ++ (rowsF K' ++ labF L m.c.prog)) (h1.less fun t S' h => ?_) (pC (A := p7 L m.c ob m.x g c a ((y, b) :: K')) (C := frE y b)) (fun t S' h => ?_) (R := fun t S => (okS m.x.set (readsF (insOf p m.x)) = false ∧ t = bv false ∧ S = p7 L m.c ob m.x g c a ((y, b) :: K') ++ frE y b) ∨ (okS m.x.set (readsF (insOf p m.x)) = true ∧ t = bv true ∧ S = p7 L m.c ob (setD y m.x.d (rA m.x (insOf p m.x).a)) g c b K'))
  ·rcases h with ⟨a1, a2, a3⟩ | ⟨a1, a2, a3⟩
   ·exact ⟨_, a3, .inl ⟨a1, a2, rfl⟩⟩
   ·exact ⟨_, a3, .inr ⟨a1, a2, rfl⟩⟩
  rcases h with ⟨h0, e1, e2⟩ | ⟨h0, e1, e2⟩
  ·have hs := step_0 (RF := realF) h0
   refine ⟨DP L m ⟨g, c, a, (y, b) :: K', l, ds, ob⟩, ?_, m, ⟨g, c, a, (y, b) :: K', l, ds, ob⟩, ?_, fun m1 h => ?_, fun _ => ⟨m.x.at_, rfl⟩, hq, rfl⟩
   ·rw [e2]; exact pC (A := p7 L m.c ob m.x g c a ((y, b) :: K')) (C := frE y b)
   ·rw [hs]; exact e1
   ·rw [hs] at h; cases h
  ·have hs := stepB (RF := realF) h0 hk
   have e3 : backM m (rA m.x (insOf p m.x).a) = { m with x := setD y m.x.d (rA m.x (insOf p m.x).a), bl := K'.map (·.1) } := by
    unfold backM; rw [hbl]
   refine ⟨_, List.Perm.refl _, { m with x := setD y m.x.d (rA m.x (insOf p m.x).a), bl := K'.map (·.1) }, ⟨g, c, b, K', l, ds, ob⟩, ?_, fun m1 h => ?_, fun h => ?_, ⟨rfl, hq.ok, hq.mem, hq.w⟩, ?_⟩
   ·rw [hs]; exact e1
   ·rw [hs, e3] at h; cases h; rfl
   ·rw [hs] at h; cases h
   ·rw [e2]; rfl
theorem DdoC (hm : MOk p m) (hp : ProgOk p) (hpi : ProgIn p) (hq : DRel m q) (hk : (insOf p m.x).kind = 22 ∨ (insOf p m.x).kind = 23 ∨ (insOf p m.x).kind = 24 ∨ (insOf p m.x).kind = 25) :
    ACalls Tryz.prog 47 [.v (.pointer (some ⟨L.s, 0, none⟩)), cpD q, .agg (insCells (insOf p m.x))] (DP L m q) (DStepR L m (insOf p m.x)) := by
 have hb := hm.top.bounds hp hpi
 have io := hm.top.ins hp
 have hpr := hm.prog
 have hargs : (hasF (insOf p m.x).kind).args = true := by rcases hk with h | h | h | h <;> rw [h] <;> rfl
 have hlen : m.bl.length = q.K.length := by rw [← hq.bl, List.length_map]
 have hdep := hm.dep
 have h1 := DstepC_ L.s q.g q.c q.K.length (psLD L m.c) q.ob (rowD q.K) m.x q.a (insOf p m.x) hm.top.ok (by have h9 := (fn_regs hp hm.top.f1).2.1; have h8 := hm.top.nr; unfold fnOf at h8; omega) (rowD_len q.K) (by omega) hk (by show ProgOk m.c.prog; rw [hpr]; exact hp) (by show m.c.prog.funs.length ≤ _; rw [hpr]; exact hpi.funs) hb.a (hb.args hargs) hb.len hb.args hb.b (fun h => by
  show (_ ∧ _ < m.c.prog.funs.length) ∧ _ = parF m.c.prog _
  rw [hpr]; exact ⟨io.fn h, io.par hargs h⟩) hb.at_
 refine ACalls.part (memD L q.l q.ds ++ (rowsF q.K ++ labF L m.c.prog)) (h1.less fun t S' h => ?_) (List.Perm.refl _) (fun t S' h => ?_) (R := fun t S => (okS m.x.set (readsF (insOf p m.x)) = false ∧ t = bv false ∧ S = p7 L m.c q.ob m.x q.g q.c q.a q.K) ∨ (okS m.x.set (readsF (insOf p m.x)) = true ∧ ∃ b, t = bv b ∧ JQD L.s q.g q.c q.K.length (psLD L m.c) q.ob (rowD q.K) m.x q.a (insOf p m.x) b S))
 ·rcases h with ⟨a1, a2, a3⟩ | ⟨a1, b, S2, a2, a3, a4⟩
  ·exact ⟨_, a3, .inl ⟨a1, a2, rfl⟩⟩
  exact ⟨S2, a4, .inr ⟨a1, b, a2, a3⟩⟩
 rcases h with ⟨h0, e1, e2⟩ | ⟨h0, b, e1, hJ⟩
 ·have hs := step_0 (RF := realF) h0
  refine ⟨_, List.Perm.refl _, m, q, ?_, fun m1 h => (by rw [hs] at h; cases h), fun _ => ⟨m.x.at_, rfl⟩, hq, ?_⟩
  ·rw [hs]; exact e1
  rw [e2]; rfl
 have hs := stepC (RF := realF) h0 hk
 unfold JQD at hJ
 have hpp : (psLD L m.c).prog = m.c.prog := rfl
 rw [hpp] at hJ
 unfold jumpM at hs
 cases hc : calleeF m.c.prog m.x (insOf p m.x) with
 | none =>
  rw [hc] at hJ hs
  obtain ⟨rfl, e2⟩ := hJ
  refine ⟨_, List.Perm.refl _, m, q, ?_, fun m1 h => (by rw [hs] at h; cases h), fun _ => ⟨m.x.at_, rfl⟩, hq, ?_⟩
  ·rw [hs]; exact e1
  ·rw [e2]; rfl
 | some f =>
  rw [hc] at hJ hs
  dsimp only at hJ hs
  split at hJ
  ·rename_i h24
   rw [if_pos h24] at hs
   obtain ⟨rfl, g', c', a', e2⟩ := hJ
   refine ⟨_, List.Perm.refl _, { m with x := openFr (m.c.prog.funs.getD f default) f (argsF m.x (insOf p m.x)) m.x.d }, { q with g := g', c := c', a := a' }, ?_, fun m1 h => (by rw [hs] at h; cases h; rfl), fun h => (by rw [hs] at h; cases h), ⟨hq.bl, hq.ok, hq.mem, hq.w⟩, ?_⟩
   ·rw [hs]; exact e1
   ·rw [e2]; rfl
  ·rename_i h24
   rw [if_neg h24] at hs
   rw [← hlen] at hJ
   split at hJ
   ·rename_i hmx
    rw [if_pos hmx] at hs
    obtain ⟨rfl, e2⟩ := hJ
    refine ⟨_, List.Perm.refl _, m, q, ?_, fun m1 h => (by rw [hs] at h; cases h), fun _ => ⟨m.x.at_, rfl⟩, hq, ?_⟩
    ·rw [hs]; exact e1
    ·rw [e2, hlen]; rfl
   ·rename_i hmx
    rw [if_neg hmx] at hs
    obtain ⟨rfl, g', c', a', e2⟩ := hJ
    rw [hlen] at e2
    refine ⟨DP L { m with x := openFr (m.c.prog.funs.getD f default) f (argsF m.x (insOf p m.x)) (insOf p m.x).d, bl := callF m.c.strict m.x :: m.bl } ⟨g', c', a', (callF m.c.strict m.x, q.a) :: q.K, q.l, q.ds, q.ob⟩, ?_, { m with x := openFr (m.c.prog.funs.getD f default) f (argsF m.x (insOf p m.x)) (insOf p m.x).d, bl := callF m.c.strict m.x :: m.bl }, ⟨g', c', a', (callF m.c.strict m.x, q.a) :: q.K, q.l, q.ds, q.ob⟩, ?_, fun m1 h => (by rw [hs] at h; cases h; rfl), fun h => (by rw [hs] at h; cases h), ⟨by rw [List.map_cons, hq.bl], hq.ok, hq.mem, hq.w⟩, rfl⟩
    ·rw [e2]
     exact pC (A := p7 L m.c q.ob (openFr (m.c.prog.funs.getD f default) f (argsF m.x (insOf p m.x)) (insOf p m.x).d) g' c' a' ((callF m.c.strict m.x, q.a) :: q.K)) (C := frE (callF m.c.strict m.x) q.a)
    ·rw [hs]; exact e1
end
end Go.Proofs.YtpgbpdnmjeoeoaaGreat

namespace Go.Proofs.YtpgbpdnmjeoeoaaGreat
open Go Go.RowKit

def DEnd (m' mR : Mc) : Prop := m' = mR ∨ (mR.c.st ≠ 0 ∧ ∃ at_, m' = { mR with x := { mR.x with at_ := at_ } })
theorem dend {RF : Int → Wd64 → Wd64 → Wd64} {m : Mc} {f : Int} {k : Nat} (h : ¬ ((k : Int) < f ∧ m.c.st = 0)) : runM RF (f.toNat - k) m = m := by
 cases hf : f.toNat - k with
 | zero => rfl
 | succ n =>
  rw [runM, if_pos]
  intro e
  exact h ⟨by omega, e⟩
end Go.Proofs.YtpgbpdnmjeoeoaaGreat

namespace Go.Proofs.YtpgbpdnmjeoeoaaGreat.B
open Go Go.RowKit
inductive SV where
 | dt (o : Nat)
 | wd (x : Wd64)
def SV.val : SV → Wd64
 | .dt o => 268435456#64 + wI (o : Int)
 | .wd x => x
abbrev Rg := List (Nat × SV)
def kn (r : Nat) : Rg → Option SV
 | [] => none
 | (k, v) :: l => bif Nat.beq r k then some v else kn r l
structure Fk where
 f : Nat
 a : Nat
 ρ : Rg
 d : Int
structure Sy where
 top : Fk
 bl : List Fk
 c : Nat → Wd64
def updC (c : Nat → Wd64) (k : Nat) (v : Wd64) : Nat → Wd64 := fun j => bif Nat.beq j k then v else c j
structure Ob where
 cond : Int
 u : Wd64
 v : Wd64
 b : Bool
def Ob.ok (o : Ob) : Prop := holdsF o.cond o.u o.v = o.b
def opW (k : Int) (u v : Wd64) : Option Wd64 :=
 if k = 3 then some (u + v) else if k = 4 then some (u - v) else if k = 5 then some (u * v) else if k = 9 then some (u &&& v) else if k = 10 then some (u ||| v)
 else if k = 12 then some (u <<< (v &&& 63#64).toNat) else if k = 13 then some (u >>> (v &&& 63#64).toNat) else none
def knL (ρ : Rg) : List Int → Option (List SV)
 | [] => some []
 | r :: l => match kn r.toNat ρ, knL ρ l with
  | some v, some vs => some (v :: vs)
  | _, _ => none
def argsR : Nat → List SV → Rg
 | _, [] => []
 | k, v :: l => (k, v) :: argsR (k + 1) l
def fnS (P : Prog) (f : Nat) : Fn := P.funs.getD f default
def atS (P : Prog) (k : Fk) : Nat := skipL (fnS P k.f).code ((fnS P k.f).code.length - k.a) k.a
def insS (P : Prog) (k : Fk) : Ins := (fnS P k.f).code.getD (atS P k) default
def putS (P : Prog) (s : Sy) (v : SV) : Option (Sy × List Ob) :=
 if 0 ≤ (insS P s.top).d ∧ (insS P s.top).d < (fnS P s.top.f).regs then some ({ s with top := { s.top with a := atS P s.top + 1, ρ := ((insS P s.top).d.toNat, v) :: s.top.ρ } }, []) else none
def whS (P : Prog) (k : Fk) : Int := getL (insS P k).l (whL (fnS P k.f).code)
def sstep (P : Prog) (h : Wd64) (b : Bool) (s : Sy) : Option (Sy × List Ob) :=
 if (insS P s.top).kind = 1 then putS P s (.wd (wI (insS P s.top).imm))
 else if (insS P s.top).kind = 27 then (if 0 ≤ (insS P s.top).imm then putS P s (.dt (insS P s.top).imm.toNat) else none)
 else if (insS P s.top).kind = 29 then putS P s (.wd h)
 else if (insS P s.top).kind = 2 then (match kn (insS P s.top).a.toNat s.top.ρ with | some v => putS P s v | none => none)
 else if (insS P s.top).kind = 17 then (match kn (insS P s.top).a.toNat s.top.ρ with
  | some (.dt o) => if ((insS P s.top).size = 8 ∧ (insS P s.top).imm = 0) ∧ o % 8 = 0 ∧ o < 400 then putS P s (.wd (s.c (o / 8))) else none
  | _ => none)
 else if (insS P s.top).kind = 18 then (match kn (insS P s.top).a.toNat s.top.ρ, kn (insS P s.top).b.toNat s.top.ρ with
  | some (.dt o), some v => if ((insS P s.top).size = 8 ∧ (insS P s.top).imm = 0) ∧ o % 8 = 0 ∧ o < 400 then some ({ s with top := { s.top with a := atS P s.top + 1 }, c := updC s.c (o / 8) v.val }, []) else none
  | _, _ => none)
 else if (insS P s.top).kind = 20 then (if 0 ≤ whS P s.top then some ({ s with top := { s.top with a := (whS P s.top).toNat } }, []) else none)
 else if (insS P s.top).kind = 21 then (match kn (insS P s.top).a.toNat s.top.ρ, kn (insS P s.top).b.toNat s.top.ρ with
  | some u, some v => if 0 ≤ whS P s.top then some ({ s with top := { s.top with a := if b = true then (whS P s.top).toNat else atS P s.top + 1 } }, [⟨(insS P s.top).cond, u.val, v.val, b⟩]) else none
  | _, _ => none)
 else if (insS P s.top).kind = 22 then (match knL s.top.ρ (insS P s.top).args with
  | some vs => if vs.length ≤ (fnS P (insS P s.top).f.toNat).regs.toNat ∧ s.bl.length < 1000 then some (⟨⟨(insS P s.top).f.toNat, 0, argsR 0 vs, (insS P s.top).d⟩, { s.top with a := atS P s.top + 1 } :: s.bl, s.c⟩, []) else none
  | none => none)
 else if (insS P s.top).kind = 24 then (match knL s.top.ρ (insS P s.top).args with
  | some vs => if vs.length ≤ (fnS P (insS P s.top).f.toNat).regs.toNat then some (⟨⟨(insS P s.top).f.toNat, 0, argsR 0 vs, s.top.d⟩, s.bl, s.c⟩, []) else none
  | none => none)
 else if (insS P s.top).kind = 26 then (match kn (insS P s.top).a.toNat s.top.ρ, s.bl with
  | some v, y :: r => if 0 ≤ s.top.d ∧ s.top.d < (fnS P y.f).regs then some (⟨{ y with ρ := (s.top.d.toNat, v) :: y.ρ }, r, s.c⟩, []) else none
  | _, _ => none)
 else match kn (insS P s.top).a.toNat s.top.ρ, kn (insS P s.top).b.toNat s.top.ρ with
  | some u, some v => (match opW (insS P s.top).kind u.val v.val with | some x => putS P s (.wd x) | none => none)
  | _, _ => none
/-! ### memory by words -/
theorem cell_at (k : Nat) (j : Nat) (hk : k < 50) (hj : j < 8) : (268435456#64 + wI ((8 * k : Nat) : Int) + wI (j : Int)).toNat = 268435456 + 8 * k + j := by
 have h1 := wI_nat ((8 * k : Nat) : Int)
 have h2 := wI_nat (j : Int)
 rw [wrap_u64] at h1 h2
 rw [BitVec.toNat_add, BitVec.toNat_add, BitVec.toNat_ofNat]
 omega
theorem puts_out (m : Mf) (a x : Wd64) : ∀ (n : Nat) (z : Wd64), (∀ j : Nat, j < n → z ≠ a + wI (j : Int)) → putsF m a x n z = m z
 | 0, _, _ => rfl
 | n + 1, z, h => by
  rw [putsF, updM, if_neg (h n (Nat.lt_succ_self n)), puts_out m a x n z (fun j hj => h j (Nat.lt_succ_of_lt hj))]
theorem puts_in (m : Mf) (a x : Wd64) : ∀ (n j : Nat), j < n → (∀ i k : Nat, i < n → k < n → a + wI (i : Int) = a + wI (k : Int) → i = k) → putsF m a x n (a + wI (j : Int)) = lowB (x >>> (8 * j))
 | 0, _, h, _ => absurd h (Nat.not_lt_zero _)
 | n + 1, j, h, hi => by
  rw [putsF, updM]
  by_cases e : j = n
  ·subst e; rw [if_pos rfl]
  ·rw [if_neg (fun q => e (hi j n h (Nat.lt_succ_self n) q))]
   exact puts_in m a x n j (by omega) (fun i k h1 h2 => hi i k (Nat.lt_succ_of_lt h1) (Nat.lt_succ_of_lt h2))
theorem le_ext {m m' : Mf} {a a' : Wd64} : ∀ (n : Nat), (∀ j : Nat, j < n → m (a + wI (j : Int)) = m' (a' + wI (j : Int))) → leF m a n = leF m' a' n
 | 0, _ => rfl
 | n + 1, h => by rw [leF, leF, le_ext n (fun j hj => h j (Nat.lt_succ_of_lt hj)), h n (Nat.lt_succ_self n)]
theorem low_n (y : Wd64) : (lowB y).toNat = y.toNat % 256 := by
 unfold lowB
 simp
theorem le_bytes {m : Mf} {a x : Wd64} : ∀ (n : Nat), n ≤ 8 → (∀ j : Nat, j < n → (m (a + wI (j : Int))).toNat = x.toNat / 2 ^ (8 * j) % 256) → (leF m a n).toNat = x.toNat % 2 ^ (8 * n)
 | 0, _, _ => by rw [leF]; simp [Nat.mod_one]
 | n + 1, hn, h => by
  have ih := le_bytes (m := m) (a := a) (x := x) n (by omega) (fun j hj => h j (Nat.lt_succ_of_lt hj))
  have hb := h n (Nat.lt_succ_self n)
  rw [leF, BitVec.toNat_or, BitVec.toNat_shiftLeft, bw_nat, ih, hb, Nat.shiftLeft_eq]
  have h1 : x.toNat / 2 ^ (8 * n) % 256 < 256 := Nat.mod_lt _ (by decide)
  have h2 : x.toNat / 2 ^ (8 * n) % 256 * 2 ^ (8 * n) < 2 ^ 64 := by
   have h3 : 2 ^ (8 * (n + 1)) ≤ 2 ^ 64 := Nat.pow_le_pow_right (by decide) (by omega)
   have h4 : 2 ^ (8 * (n + 1)) = 256 * 2 ^ (8 * n) := by rw [show 8 * (n + 1) = 8 + 8 * n by omega, Nat.pow_add]
   have h5 : 0 < 2 ^ (8 * n) := Nat.pow_pos (by decide)
   have := Nat.mul_lt_mul_of_pos_right h1 h5
   omega
  rw [Nat.mod_eq_of_lt h2, Nat.or_comm, ← Nat.shiftLeft_eq, ← Nat.shiftLeft_add_eq_or_of_lt (Nat.mod_lt _ (Nat.pow_pos (by decide))), Nat.shiftLeft_eq, show 8 * (n + 1) = 8 * n + 8 by omega, Nat.pow_add, Nat.mod_mul]
  show _ = _ + 2 ^ (8 * n) * (x.toNat / 2 ^ (8 * n) % 256)
  rw [Nat.mul_comm (2 ^ (8 * n)), Nat.add_comm]
theorem le_puts (m : Mf) (a x : Wd64) (hi : ∀ i k : Nat, i < 8 → k < 8 → a + wI (i : Int) = a + wI (k : Int) → i = k) : leF (putsF m a x 8) a 8 = x := by
 apply BitVec.eq_of_toNat_eq
 rw [le_bytes (x := x) 8 (Nat.le_refl _) (fun j hj => by
  rw [puts_in m a x 8 j hj hi, low_n, BitVec.toNat_ushiftRight, Nat.shiftRight_eq_div_pow])]
 exact Nat.mod_eq_of_lt x.isLt
def Cells (c : Nat → Wd64) (m : Mf) : Prop := ∀ k : Nat, k < 50 → leF m (268435456#64 + wI ((8 * k : Nat) : Int)) 8 = c k
theorem Cells.put {c : Nat → Wd64} {m : Mf} (h : Cells c m) (k : Nat) (hk : k < 50) (v : Wd64) : Cells (updC c k v) (putsF m (268435456#64 + wI ((8 * k : Nat) : Int)) v 8) := by
 intro j hj
 unfold updC
 by_cases e : j = k
 ·subst e
  rw [Nat.beq_refl]
  exact le_puts _ _ _ (fun a b ha hb q => by
   have := congrArg BitVec.toNat q
   rw [cell_at _ _ hj ha, cell_at _ _ hj hb] at this
   omega)
 have hb : Nat.beq j k = false := by
  cases q : Nat.beq j k with
  | false => rfl
  | true => exact absurd (Nat.eq_of_beq_eq_true q) e
 rw [hb]
 refine Eq.trans (le_ext 8 (fun i hi => puts_out _ _ _ _ _ (fun l hl q => ?_))) (h j hj)
 have := congrArg BitVec.toNat q
 rw [cell_at _ _ hj hi, cell_at _ _ hk hl] at this
 omega
/-! ### the machine -/
structure FrIs (P : Prog) (y : Fr) (k : Fk) : Prop where
 f : y.f = (k.f : Int)
 a : y.at_ = (k.a : Int)
 d : y.d = k.d
 r : y.r.length = (fnS P k.f).regs.toNat
 t : y.set.length = (fnS P k.f).regs.toNat
 k : ∀ n v, kn n k.ρ = some v → y.r.getD n 0#64 = v.val ∧ y.set.getD n default = true
def BlIs (P : Prog) : List Fr → List Fk → Prop
 | [], [] => True
 | y :: l, k :: r => FrIs P y k ∧ BlIs P l r
 | _, _ => False
structure Is (P : Prog) (h : Wd64) (e : Bool) (w : V.PW) (s : Sy) (m : Mc) : Prop where
 prog : m.c.prog = P
 heap : m.c.heap = h
 strict : m.c.strict = false
 ent : m.c.ent = e
 st : m.c.st = 0
 w : m.w = w
 top : FrIs P m.x s.top
 bl : BlIs P m.bl s.bl
 c : Cells s.c m.mem
section
variable {RF : Int → Wd64 → Wd64 → Wd64} {P : Prog} {h : Wd64} {e b : Bool} {w : V.PW} {s s' : Sy} {m : Mc} {obs : List Ob}
theorem adv_is (hm : Is P h e w s m) : (advM m).x = { m.x with at_ := (atS P s.top : Int) } ∧ insOf m.c.prog (advM m).x = insS P s.top := by
 have h1 := hm.top.f
 have h2 := hm.top.a
 have e1 : (advM m).x = { m.x with at_ := (atS P s.top : Int) } := by
  unfold advM advF fnOf atS fnS
  rw [hm.prog]
  dsimp only
  rw [h1, h2, Int.toNat_natCast, Int.toNat_natCast]
 refine ⟨e1, ?_⟩
 rw [e1, hm.prog]
 unfold insOf fnOf insS fnS
 dsimp only
 rw [h1, Int.toNat_natCast, Int.toNat_natCast]
theorem FrIs.rd {y : Fr} {k : Fk} (hf : FrIs P y k) {r : Int} {v : SV} (hr : kn r.toNat k.ρ = some v) : rA y r = v.val ∧ y.set.getD r.toNat default = true := hf.k _ _ hr
theorem kn_cons {n r : Nat} {v u : SV} {ρ : Rg} (h : kn n ((r, v) :: ρ) = some u) : n = r ∧ u = v ∨ n ≠ r ∧ kn n ρ = some u := by
 unfold kn at h
 by_cases q : n = r
 ·subst q; rw [Nat.beq_refl] at h; exact .inl ⟨rfl, (Option.some.inj h).symm⟩
 have hb : Nat.beq n r = false := by
  cases z : Nat.beq n r with
  | false => rfl
  | true => exact absurd (Nat.eq_of_beq_eq_true z) q
 rw [hb] at h; exact .inr ⟨q, h⟩
theorem FrIs.set {y : Fr} {k : Fk} (hf : FrIs P y k) {d : Int} (h0 : 0 ≤ d) (h1 : d < (fnS P k.f).regs) {v : SV} {x : Wd64} (hx : x = v.val) (at_ : Nat) : FrIs P { setD y d x with at_ := (at_ : Int) } { k with a := at_, ρ := (d.toNat, v) :: k.ρ } := by
 have hd : d.toNat < (fnS P k.f).regs.toNat := by omega
 refine ⟨hf.f, rfl, hf.d, List.length_set.trans hf.r, List.length_set.trans hf.t, fun n u hn => ?_⟩
 show (y.r.set d.toNat x).getD n 0#64 = u.val ∧ (y.set.set d.toNat true).getD n default = true
 rcases kn_cons hn with ⟨rfl, rfl⟩ | ⟨hne, hn⟩
 ·rw [List.getD_eq_getElem?_getD, List.getD_eq_getElem?_getD, List.getElem?_set_self (by rw [hf.r]; exact hd), List.getElem?_set_self (by rw [hf.t]; exact hd)]
  exact ⟨hx, rfl⟩
 rw [List.getD_eq_getElem?_getD, List.getD_eq_getElem?_getD, List.getElem?_set_ne (fun q => hne q.symm), List.getElem?_set_ne (fun q => hne q.symm), ← List.getD_eq_getElem?_getD, ← List.getD_eq_getElem?_getD]
 exact hf.k n u hn
theorem FrIs.go {y : Fr} {k : Fk} (hf : FrIs P y k) (at_ : Nat) : FrIs P { y with at_ := (at_ : Int) } { k with a := at_ } := ⟨hf.f, rfl, hf.d, hf.r, hf.t, hf.k⟩
theorem run_one (hm : Is P h e w s m) {q : Mc} (hq : stepM RF (advM m) (insS P s.top) = some q) (hs : Is P h e w s' q) : ∃ m', (∀ N, runM RF (N + 1) m = runM RF N m') ∧ Is P h e w s' m' := by
 refine ⟨tickC q, fun N => ?_, ⟨hs.prog, hs.heap, hs.strict, hs.ent, hs.st, hs.w, hs.top, hs.bl, hs.c⟩⟩
 rw [runM, if_neg (fun q => q hm.st), (adv_is hm).2, hq]
theorem rd_0 {i : Ins} (h : (hasF i.kind).a = false ∧ (hasF i.kind).b = false ∧ (hasF i.kind).args = false) : readsF i = [] := by
 unfold readsF rd2 rd1; rw [h.1, h.2.1, h.2.2]; rfl
theorem rd_a {i : Ins} (h : (hasF i.kind).a = true ∧ (hasF i.kind).b = false ∧ (hasF i.kind).args = false) : readsF i = [i.a] := by
 unfold readsF rd2 rd1; rw [h.1, h.2.1, h.2.2]; rfl
theorem rd_ab {i : Ins} (h : (hasF i.kind).a = true ∧ (hasF i.kind).b = true ∧ (hasF i.kind).args = false) : readsF i = [i.a, i.b] := by
 unfold readsF rd2 rd1; rw [h.1, h.2.1, h.2.2]; rfl
theorem rd_g {i : Ins} (h : (hasF i.kind).a = false ∧ (hasF i.kind).b = false ∧ (hasF i.kind).args = true) : readsF i = i.args := by
 unfold readsF rd2 rd1; rw [h.1, h.2.1, h.2.2]; rfl
theorem ok_a {set : List Bool} {r : Int} (h : set.getD r.toNat default = true) : okS set [r] = true := by rw [okS_one]; exact h
theorem ok_ab {set : List Bool} {r q : Int} (h : set.getD r.toNat default = true) (h2 : set.getD q.toNat default = true) : okS set [r, q] = true := by
 rw [show [r, q] = [r] ++ [q] from rfl, okS_app, okS_one, okS_one, h, h2]; rfl
theorem val_is (hm : Is P h e w s m) (hk : valK (insS P s.top).kind) (h17 : ¬ (insS P s.top).kind = 17) (h18 : ¬ (insS P s.top).kind = 18) (h32 : ¬ (insS P s.top).kind = 32) (ho : okS (advM m).x.set (readsF (insS P s.top)) = true) {v : SV} (hv : valueF RF h (advM m).x (insS P s.top) = (v.val, true)) (hp : putS P s v = some (s', obs)) : ∃ m', (∀ N, runM RF (N + 1) m = runM RF N m') ∧ Is P h e w s' m' := by
 have hx := (adv_is hm).1
 have hA := hm.top.go (atS P s.top)
 rw [← hx] at hA
 unfold putS at hp
 split at hp
 ·rename_i hd
  simp only [Option.some.injEq, Prod.mk.injEq] at hp
  obtain ⟨rfl, _⟩ := hp
  have hs : stepM RF (advM m) (insS P s.top) = some { advM m with x := goF (setD (advM m).x (insS P s.top).d v.val) } := by
   rw [stepV (.inl hk) h17 h18, stepA, if_neg (by rw [ho]; decide), if_neg h32, show (advM m).c.heap = h from hm.heap, hv, if_pos rfl]
   rfl
  refine run_one hm hs ⟨hm.prog, hm.heap, hm.strict, hm.ent, hm.st, hm.w, ?_, hm.bl, hm.c⟩
  have h2 := hA.set hd.1 hd.2 (v := v) rfl (atS P s.top + 1)
  have e1 : goF (setD (advM m).x (insS P s.top).d v.val) = { setD (advM m).x (insS P s.top).d v.val with at_ := ((atS P s.top + 1 : Nat) : Int) } := by
   unfold goF setD
   rw [hx]
   rfl
  show FrIs P (goF _) _
  rw [e1]
  exact h2
 cases hp
theorem th_cell (hz : psData P = 400#64) (o : Nat) (h8 : o % 8 = 0) (h4 : o < 400) : thereF (psData P) h (268435456#64 + wI (o : Int)) (wI 8) = true := by
 have h1 := wI_nat (o : Int)
 rw [wrap_u64] at h1
 have ha : (268435456#64 + wI (o : Int)).toNat = 268435456 + o := by
  rw [BitVec.toNat_add, BitVec.toNat_ofNat]; omega
 have hs : (268435456#64 + wI (o : Int) - 268435456#64).toNat = o := by
  rw [BitVec.toNat_sub, ha, BitVec.toNat_ofNat]; omega
 have h400 : (400#64 : Wd64).toNat = 400 := rfl
 have h8n : (wI 8).toNat = 8 := rfl
 have hr : (400#64 - (268435456#64 + wI (o : Int) - 268435456#64)).toNat = 400 - o := by
  rw [BitVec.toNat_sub, hs, h400]; omega
 unfold thereF inF
 rw [hz]
 simp only [Bool.or_eq_true, Bool.and_eq_true, decide_eq_true_eq, BitVec.le_def]
 left
 refine ⟨⟨?_, ?_⟩, ?_⟩
 ·rw [ha, BitVec.toNat_ofNat]; omega
 ·rw [hs, h400]; omega
 rw [hr, h8n]; omega
theorem ad_cell {y : Fr} {i : Ins} {o : Nat} (ha : rA y i.a = (SV.dt o).val) (hi : i.imm = 0) (h8 : o % 8 = 0) : adF y i = 268435456#64 + wI ((8 * (o / 8) : Nat) : Int) := by
 unfold adF
 rw [ha, hi, show 8 * (o / 8) = o by omega]
 show 268435456#64 + wI (o : Int) + wI 0 = _
 exact BitVec.add_zero _
theorem knL_rd {y : Fr} {k : Fk} (hf : FrIs P y k) : ∀ {l : List Int} {vs : List SV}, knL k.ρ l = some vs → l.map (rA y) = vs.map SV.val ∧ okS y.set l = true
 | [], vs, hv => by
  obtain rfl : [] = vs := Option.some.inj hv
  exact ⟨rfl, rfl⟩
 | r :: l, vs, hv => by
  unfold knL at hv
  split at hv
  ·rename_i v us h1 h2
   obtain rfl := Option.some.inj hv
   obtain ⟨a1, a2⟩ := hf.rd h1
   obtain ⟨b1, b2⟩ := knL_rd hf h2
   refine ⟨by rw [List.map_cons, List.map_cons, a1, b1], ?_⟩
   rw [show r :: l = [r] ++ l from rfl, okS_app, okS_one, a2, b2]; rfl
  ·cases hv
theorem kn_args : ∀ {vs : List SV} {j n : Nat} {v : SV}, kn n (argsR j vs) = some v → ∃ i, n = j + i ∧ vs[i]? = some v
 | [], _, _, _, h => by cases h
 | u :: vs, j, n, v, h => by
  rcases kn_cons h with ⟨rfl, rfl⟩ | ⟨_, h⟩
  ·exact ⟨0, rfl, rfl⟩
  ·obtain ⟨i, rfl, h2⟩ := kn_args h
   exact ⟨i + 1, by omega, h2⟩
theorem open_is {g : Nat} {vs : List SV} (hl : vs.length ≤ (fnS P g).regs.toNat) (d : Int) : FrIs P (openFr (P.funs.getD g default) (g : Int) (vs.map SV.val) d) ⟨g, 0, argsR 0 vs, d⟩ := by
 have hl' : (vs.map SV.val).length ≤ (fnS P g).regs.toNat := by rw [List.length_map]; exact hl
 refine ⟨rfl, rfl, rfl, rj_len (Nat.le_refl _) hl', sj_len hl', fun n v hn => ?_⟩
 obtain ⟨i, rfl, hi⟩ := kn_args hn
 have hiv : i < vs.length := (List.getElem?_eq_some_iff.1 hi).1
 rw [Nat.zero_add]
 constructor
 ·show (rJ (vs.map SV.val) (fnS P g).regs.toNat (vs.map SV.val).length).getD i 0#64 = v.val
  unfold rJ
  rw [List.take_length, List.getD_eq_getElem?_getD, List.getElem?_append_left (by rw [List.length_map]; exact hiv), List.getElem?_map, hi]
  rfl
 show (sJ (fnS P g).regs.toNat (vs.map SV.val).length).getD i default = true
 unfold sJ
 rw [List.getD_eq_getElem?_getD, List.getElem?_append_left (by rw [List.length_replicate, List.length_map]; exact hiv), List.getElem?_replicate, if_pos (by rw [List.length_map]; exact hiv)]
 rfl
theorem BlIs.len : ∀ {l : List Fr} {r : List Fk}, BlIs P l r → l.length = r.length
 | [], [], _ => rfl
 | _ :: _, _ :: _, h => by rw [List.length_cons, List.length_cons, BlIs.len h.2]
 | [], _ :: _, h => h.elim
 | _ :: _, [], h => h.elim
theorem sstep_ok (hz : psData P = 400#64) (hm : Is P h e w s m) (hs : sstep P h b s = some (s', obs)) (ho : ∀ o ∈ obs, o.ok) : ∃ m', (∀ N, runM RF (N + 1) m = runM RF N m') ∧ Is P h e w s' m' := by
 have hx := (adv_is hm).1
 have hA := hm.top.go (atS P s.top)
 rw [← hx] at hA
 have hrd : ∀ {r : Int} {v : SV}, kn r.toNat s.top.ρ = some v → rA (advM m).x r = v.val ∧ (advM m).x.set.getD r.toNat default = true := fun q => hA.rd q
 unfold sstep at hs
 by_cases k1 : (insS P s.top).kind = 1
 ·rw [if_pos k1] at hs
  exact val_is hm (by unfold valK; omega) (by omega) (by omega) (by omega) (by rw [rd_0 (by rw [k1]; exact ⟨rfl, rfl, rfl⟩)]; rfl) (by unfold valueF; rw [if_pos k1]; rfl) hs
 rw [if_neg k1] at hs
 by_cases k27 : (insS P s.top).kind = 27
 ·rw [if_pos k27] at hs
  split at hs
  ·rename_i hi
   exact val_is hm (by unfold valK; omega) (by omega) (by omega) (by omega) (by rw [rd_0 (by rw [k27]; exact ⟨rfl, rfl, rfl⟩)]; rfl) (by unfold valueF; rw [if_neg k1, if_pos k27]; show (268435456#64 + wI (insS P s.top).imm, true) = (268435456#64 + wI (((insS P s.top).imm.toNat : Nat) : Int), true); rw [Int.toNat_of_nonneg hi]) hs
  cases hs
 rw [if_neg k27] at hs
 by_cases k29 : (insS P s.top).kind = 29
 ·rw [if_pos k29] at hs
  exact val_is hm (by unfold valK; omega) (by omega) (by omega) (by omega) (by rw [rd_0 (by rw [k29]; exact ⟨rfl, rfl, rfl⟩)]; rfl) (by unfold valueF; rw [if_neg k1, if_neg k27, if_neg (by omega), if_pos k29]; rfl) hs
 rw [if_neg k29] at hs
 by_cases k2 : (insS P s.top).kind = 2
 ·rw [if_pos k2] at hs
  split at hs
  ·rename_i v hv
   obtain ⟨a1, a2⟩ := hrd hv
   exact val_is hm (by unfold valK; omega) (by omega) (by omega) (by omega) (by rw [rd_a (by rw [k2]; exact ⟨rfl, rfl, rfl⟩)]; exact ok_a a2) (by unfold valueF; rw [if_neg k1, if_neg k27, if_neg (by omega), if_neg k29, if_neg (by omega), if_pos k2, a1]) hs
  cases hs
 rw [if_neg k2] at hs
 by_cases k17 : (insS P s.top).kind = 17
 ·rw [if_pos k17] at hs
  split at hs
  ·rename_i o hv
   split at hs
   ·rename_i hc
    obtain ⟨a1, a2⟩ := hrd hv
    have had := ad_cell (i := insS P s.top) a1 hc.1.2 hc.2.1
    have hth : memOk (advM m).c (adF (advM m).x (insS P s.top)) (insS P s.top).size = true := by
     unfold memOk thereC
     rw [had, hc.1.1, show (advM m).c.prog = P from hm.prog, show 8 * (o / 8) = o by omega, th_cell hz o hc.2.1 hc.2.2]
     rfl
    have hld : leF (advM m).mem (adF (advM m).x (insS P s.top)) (insS P s.top).size.toNat = s.c (o / 8) := by
     rw [had, hc.1.1]; exact hm.c (o / 8) (by omega)
    have hst : stepM RF (advM m) (insS P s.top) = some { advM m with x := goF (setD (advM m).x (insS P s.top).d (s.c (o / 8))) } := by
     rw [stepLd (by rw [rd_a (by rw [k17]; exact ⟨rfl, rfl, rfl⟩)]; exact ok_a a2) k17, if_pos hth, hld]
    unfold putS at hs
    split at hs
    ·rename_i hd
     simp only [Option.some.injEq, Prod.mk.injEq] at hs
     obtain ⟨rfl, _⟩ := hs
     refine run_one hm hst ⟨hm.prog, hm.heap, hm.strict, hm.ent, hm.st, hm.w, ?_, hm.bl, hm.c⟩
     have h2 := hA.set hd.1 hd.2 (v := .wd (s.c (o / 8))) rfl (atS P s.top + 1)
     have e1 : goF (setD (advM m).x (insS P s.top).d (s.c (o / 8))) = { setD (advM m).x (insS P s.top).d (s.c (o / 8)) with at_ := ((atS P s.top + 1 : Nat) : Int) } := by
      unfold goF setD
      rw [hx]
      rfl
     show FrIs P (goF _) _
     rw [e1]
     exact h2
    cases hs
   cases hs
  cases hs
 rw [if_neg k17] at hs
 by_cases k18 : (insS P s.top).kind = 18
 ·rw [if_pos k18] at hs
  split at hs
  ·rename_i o v hv hu
   split at hs
   ·rename_i hc
    obtain ⟨a1, a2⟩ := hrd hv
    obtain ⟨b1, b2⟩ := hrd hu
    simp only [Option.some.injEq, Prod.mk.injEq] at hs
    obtain ⟨rfl, _⟩ := hs
    have had := ad_cell (i := insS P s.top) a1 hc.1.2 hc.2.1
    have hth : memOk (advM m).c (adF (advM m).x (insS P s.top)) (insS P s.top).size = true := by
     unfold memOk thereC
     rw [had, hc.1.1, show (advM m).c.prog = P from hm.prog, show 8 * (o / 8) = o by omega, th_cell hz o hc.2.1 hc.2.2]
     rfl
    have hst : stepM RF (advM m) (insS P s.top) = some { advM m with x := goF (advM m).x, mem := putsF m.mem (268435456#64 + wI ((8 * (o / 8) : Nat) : Int)) v.val 8 } := by
     rw [stepSt (by rw [rd_ab (by rw [k18]; exact ⟨rfl, rfl, rfl⟩)]; exact ok_ab a2 b2) k18, if_pos hth, b1, had, hc.1.1]
     rfl
    refine run_one hm hst ⟨hm.prog, hm.heap, hm.strict, hm.ent, hm.st, hm.w, ?_, hm.bl, hm.c.put (o / 8) (by omega) v.val⟩
    have e1 : goF (advM m).x = { (advM m).x with at_ := ((atS P s.top + 1 : Nat) : Int) } := by
     unfold goF; rw [hx]; rfl
    show FrIs P (goF _) _
    rw [e1]
    exact hA.go (atS P s.top + 1)
   cases hs
  cases hs
 rw [if_neg k18] at hs
 have hwh : whereOf (advM m).c.prog (advM m).x (insS P s.top).l = whS P s.top := by
  unfold whereOf whS fnOf fnS
  rw [show (advM m).c.prog = P from hm.prog, hA.f, Int.toNat_natCast]
 by_cases k20 : (insS P s.top).kind = 20
 ·rw [if_pos k20] at hs
  split at hs
  ·rename_i hw
   simp only [Option.some.injEq, Prod.mk.injEq] at hs
   obtain ⟨rfl, _⟩ := hs
   have hst : stepM RF (advM m) (insS P s.top) = some { advM m with x := jmpF (advM m).c.prog (advM m).x (insS P s.top) } := stepJ (by rw [rd_0 (by rw [k20]; exact ⟨rfl, rfl, rfl⟩)]; rfl) (.inl k20)
   refine run_one hm hst ⟨hm.prog, hm.heap, hm.strict, hm.ent, hm.st, hm.w, ?_, hm.bl, hm.c⟩
   have e1 : jmpF (advM m).c.prog (advM m).x (insS P s.top) = { (advM m).x with at_ := (((whS P s.top).toNat : Nat) : Int) } := by
    unfold jmpF; rw [if_pos (.inl k20), hwh, Int.toNat_of_nonneg hw]
   show FrIs P (jmpF _ _ _) _
   rw [e1]
   exact hA.go _
  cases hs
 rw [if_neg k20] at hs
 by_cases k21 : (insS P s.top).kind = 21
 ·rw [if_pos k21] at hs
  split at hs
  ·rename_i u v hu hv
   split at hs
   ·rename_i hw
    obtain ⟨a1, a2⟩ := hrd hu
    obtain ⟨b1, b2⟩ := hrd hv
    simp only [Option.some.injEq, Prod.mk.injEq] at hs
    obtain ⟨rfl, rfl⟩ := hs
    have hob : holdsF (insS P s.top).cond u.val v.val = b := ho _ (List.mem_singleton.2 rfl)
    have hst : stepM RF (advM m) (insS P s.top) = some { advM m with x := jmpF (advM m).c.prog (advM m).x (insS P s.top) } := stepJ (by rw [rd_ab (by rw [k21]; exact ⟨rfl, rfl, rfl⟩)]; exact ok_ab a2 b2) (.inr k21)
    refine run_one hm hst ⟨hm.prog, hm.heap, hm.strict, hm.ent, hm.st, hm.w, ?_, hm.bl, hm.c⟩
    have e1 : jmpF (advM m).c.prog (advM m).x (insS P s.top) = { (advM m).x with at_ := (((if b = true then (whS P s.top).toNat else atS P s.top + 1 : Nat)) : Int) } := by
     unfold jmpF
     rw [a1, b1, hob, hwh]
     cases b with
     | true => rw [if_pos (.inr rfl), if_pos rfl, Int.toNat_of_nonneg hw]
     | false =>
      rw [if_neg (fun q => q.elim k20 (fun z => by cases z)), if_neg (fun z => by cases z), show (advM m).x.at_ = (atS P s.top : Int) by rw [hx]]
      rfl
    show FrIs P (jmpF _ _ _) _
    rw [e1]
    exact hA.go _
   cases hs
  cases hs
 rw [if_neg k21] at hs
 by_cases k22 : (insS P s.top).kind = 22
 ·rw [if_pos k22] at hs
  split at hs
  ·rename_i vs hv
   split at hs
   ·rename_i hc
    simp only [Option.some.injEq, Prod.mk.injEq] at hs
    obtain ⟨rfl, _⟩ := hs
    obtain ⟨a1, a2⟩ := knL_rd hA hv
    have hbl := hm.bl.len
    have hst : stepM RF (advM m) (insS P s.top) = some { advM m with x := openFr (P.funs.getD (insS P s.top).f.toNat default) (((insS P s.top).f.toNat : Nat) : Int) (vs.map SV.val) (insS P s.top).d, bl := callF false (advM m).x :: m.bl } := by
     rw [stepC (by rw [rd_g (by rw [k22]; exact ⟨rfl, rfl, rfl⟩)]; exact a2) (.inl k22)]
     unfold jumpM calleeF
     rw [if_neg (by omega)]
     dsimp only
     rw [if_neg (by omega), if_neg (by show ¬ 1048576 ≤ m.bl.length + 1; omega), show (advM m).c.strict = false from hm.strict, show (advM m).c.prog = P from hm.prog]
     unfold argsF
     rw [a1]
     rfl
    refine run_one hm hst ⟨hm.prog, hm.heap, hm.strict, hm.ent, hm.st, hm.w, open_is hc.1 _, ⟨?_, hm.bl⟩, hm.c⟩
    have e1 : callF false (advM m).x = { (advM m).x with at_ := ((atS P s.top + 1 : Nat) : Int) } := by
     unfold callF
     rw [if_neg (by decide), show (advM m).x.at_ = (atS P s.top : Int) by rw [hx]]
     rfl
    rw [e1]
    exact hA.go _
   cases hs
  cases hs
 rw [if_neg k22] at hs
 by_cases k24 : (insS P s.top).kind = 24
 ·rw [if_pos k24] at hs
  split at hs
  ·rename_i vs hv
   split at hs
   ·rename_i hc
    simp only [Option.some.injEq, Prod.mk.injEq] at hs
    obtain ⟨rfl, _⟩ := hs
    obtain ⟨a1, a2⟩ := knL_rd hA hv
    have hst : stepM RF (advM m) (insS P s.top) = some { advM m with x := openFr (P.funs.getD (insS P s.top).f.toNat default) (((insS P s.top).f.toNat : Nat) : Int) (vs.map SV.val) s.top.d } := by
     rw [stepC (by rw [rd_g (by rw [k24]; exact ⟨rfl, rfl, rfl⟩)]; exact a2) (.inr (.inr (.inl k24)))]
     unfold jumpM calleeF
     rw [if_neg (by omega)]
     dsimp only
     rw [if_pos (.inl k24), show (advM m).c.prog = P from hm.prog, hA.d]
     unfold argsF
     rw [a1]
    exact run_one hm hst ⟨hm.prog, hm.heap, hm.strict, hm.ent, hm.st, hm.w, open_is hc _, hm.bl, hm.c⟩
   cases hs
  cases hs
 rw [if_neg k24] at hs
 by_cases k26 : (insS P s.top).kind = 26
 ·rw [if_pos k26] at hs
  split at hs
  ·rename_i v y r hv hb
   split at hs
   ·rename_i hd
    simp only [Option.some.injEq, Prod.mk.injEq] at hs
    obtain ⟨rfl, _⟩ := hs
    obtain ⟨a1, a2⟩ := hrd hv
    have hbl := hm.bl
    rw [hb] at hbl
    cases hml : m.bl with
    | nil => rw [hml] at hbl; exact hbl.elim
    | cons z l =>
     rw [hml] at hbl
     have hst : stepM RF (advM m) (insS P s.top) = some { advM m with x := setD z s.top.d v.val, bl := l } := by
      rw [stepB (by rw [rd_a (by rw [k26]; exact ⟨rfl, rfl, rfl⟩)]; exact ok_a a2) k26, a1]
      unfold backM
      rw [show (advM m).bl = z :: l from hml, hA.d]
     refine run_one hm hst ⟨hm.prog, hm.heap, hm.strict, hm.ent, hm.st, hm.w, ?_, hbl.2, hm.c⟩
     have h2 := hbl.1.set hd.1 hd.2 (v := v) rfl y.a
     have e1 : setD z s.top.d v.val = { setD z s.top.d v.val with at_ := (y.a : Int) } := by
      have := hbl.1.a
      unfold setD; rw [← this]
     show FrIs P (setD z s.top.d v.val) _
     rw [e1]
     exact h2
   cases hs
  cases hs
 rw [if_neg k26] at hs
 split at hs
 ·rename_i u v hu hv
  obtain ⟨a1, a2⟩ := hrd hu
  obtain ⟨b1, b2⟩ := hrd hv
  split at hs
  ·rename_i x hx2
   have hkk : ((insS P s.top).kind = 3 ∨ (insS P s.top).kind = 4 ∨ (insS P s.top).kind = 5 ∨ (insS P s.top).kind = 9 ∨ (insS P s.top).kind = 10 ∨ (insS P s.top).kind = 12 ∨ (insS P s.top).kind = 13) := by
    unfold opW at hx2
    by_cases q : (insS P s.top).kind = 3 ∨ (insS P s.top).kind = 4 ∨ (insS P s.top).kind = 5 ∨ (insS P s.top).kind = 9 ∨ (insS P s.top).kind = 10 ∨ (insS P s.top).kind = 12 ∨ (insS P s.top).kind = 13
    ·exact q
    ·exfalso
     rw [if_neg (by omega), if_neg (by omega), if_neg (by omega), if_neg (by omega), if_neg (by omega), if_neg (by omega), if_neg (by omega)] at hx2
     cases hx2
   refine val_is hm (by unfold valK; omega) (by omega) (by omega) (by omega) ?_ (v := .wd x) ?_ hs
   ·rw [rd_ab (by rcases hkk with q | q | q | q | q | q | q <;> rw [q] <;> exact ⟨rfl, rfl, rfl⟩)]
    exact ok_ab a2 b2
   unfold valueF
   rw [a1, b1]
   rcases hkk with q | q | q | q | q | q | q <;> (rw [q] at hx2 ⊢; obtain rfl := Option.some.inj hx2; rfl)
  cases hs
 cases hs
def srun (P : Prog) (h : Wd64) : List Bool → Nat → Sy → List Ob → Option (Sy × List Ob)
 | _, 0, s, acc => some (s, acc)
 | bs, n + 1, s, acc => match sstep P h (bs.headD false) s with
  | some (s', []) => srun P h bs n s' acc
  | some (s', obs) => srun P h bs.tail n s' (obs ++ acc)
  | none => none
theorem srun_acc {P : Prog} {h : Wd64} : ∀ {n : Nat} {bs : List Bool} {s s' : Sy} {acc obs : List Ob}, srun P h bs n s acc = some (s', obs) → ∀ o ∈ acc, o ∈ obs
 | 0, _, _, _, _, _, hr, o, ho => by
  simp only [srun, Option.some.injEq, Prod.mk.injEq] at hr
  rw [← hr.2]; exact ho
 | n + 1, bs, s, s', acc, obs, hr, o, ho => by
  rw [srun] at hr
  split at hr
  ·exact srun_acc hr o ho
  ·exact srun_acc hr o (List.mem_append.2 (.inr ho))
  ·cases hr
theorem srun_ok (hz : psData P = 400#64) : ∀ {n : Nat} {bs : List Bool} {s s' : Sy} {acc obs : List Ob} {m : Mc}, Is P h e w s m → srun P h bs n s acc = some (s', obs) → (∀ o ∈ obs, o.ok) → ∃ m', (∀ N, runM RF (N + n) m = runM RF N m') ∧ Is P h e w s' m'
 | 0, bs, s, s', acc, obs, m, hm, hr, _ => by
  simp only [srun, Option.some.injEq, Prod.mk.injEq] at hr
  rw [← hr.1]
  exact ⟨m, fun _ => rfl, hm⟩
 | n + 1, bs, s, s', acc, obs, m, hm, hr, ho => by
  rw [srun] at hr
  split at hr
  ·rename_i s2 h2
   obtain ⟨m1, r1, i1⟩ := sstep_ok (RF := RF) hz hm h2 (fun _ q => by cases q)
   obtain ⟨m2, r2, i2⟩ := srun_ok hz i1 hr ho
   exact ⟨m2, fun N => by rw [show N + (n + 1) = (N + n) + 1 by omega, r1, r2], i2⟩
  ·rename_i s2 obs2 _ h2
   obtain ⟨m1, r1, i1⟩ := sstep_ok (RF := RF) hz hm h2 (fun o q => ho o (srun_acc hr o (List.mem_append.2 (.inl q))))
   obtain ⟨m2, r2, i2⟩ := srun_ok hz i1 hr ho
   exact ⟨m2, fun N => by rw [show N + (n + 1) = (N + n) + 1 by omega, r1, r2], i2⟩
  ·cases hr
end
end Go.Proofs.YtpgbpdnmjeoeoaaGreat.B

namespace Go.Proofs.YtpgbpdnmjeoeoaaGreat.B
open Go
theorem ag_2 : aggSize Tryz.prog 2 = some (false, 1) := by kernel_rfl
theorem ag_3 : aggSize Tryz.prog 3 = some (false, 1) := by kernel_rfl
theorem ag_56 : aggSize Tryz.prog 56 = some (true, 3) := by kernel_rfl
theorem ag_87 : aggSize Tryz.prog 87 = some (false, 1) := by kernel_rfl
theorem ag_91 : aggSize Tryz.prog 91 = some (false, 1) := by kernel_rfl
theorem ag_93 : aggSize Tryz.prog 93 = some (true, 5) := by kernel_rfl
theorem ag_98 : aggSize Tryz.prog 98 = some (true, 11) := by kernel_rfl
theorem ce_100 : calleeB Tryz.prog 100 = true := by kernel_rfl
theorem ce_101 : calleeB Tryz.prog 101 = true := by kernel_rfl
theorem ce_102 : calleeB Tryz.prog 102 = true := by kernel_rfl
theorem ce_103 : calleeB Tryz.prog 103 = true := by kernel_rfl
theorem ce_104 : calleeB Tryz.prog 104 = true := by kernel_rfl
theorem ce_105 : calleeB Tryz.prog 105 = true := by kernel_rfl
theorem ce_106 : calleeB Tryz.prog 106 = true := by kernel_rfl
theorem ce_107 : calleeB Tryz.prog 107 = true := by kernel_rfl
theorem ce_108 : calleeB Tryz.prog 108 = true := by kernel_rfl
theorem ce_109 : calleeB Tryz.prog 109 = true := by kernel_rfl
theorem ce_110 : calleeB Tryz.prog 110 = true := by kernel_rfl
theorem ce_111 : calleeB Tryz.prog 111 = true := by kernel_rfl
theorem ce_112 : calleeB Tryz.prog 112 = true := by kernel_rfl
theorem ce_113 : calleeB Tryz.prog 113 = true := by kernel_rfl
theorem ce_114 : calleeB Tryz.prog 114 = true := by kernel_rfl
theorem ce_115 : calleeB Tryz.prog 115 = true := by kernel_rfl
theorem ce_116 : calleeB Tryz.prog 116 = true := by kernel_rfl
theorem ce_117 : calleeB Tryz.prog 117 = true := by kernel_rfl
theorem ce_118 : calleeB Tryz.prog 118 = true := by kernel_rfl
theorem ce_119 : calleeB Tryz.prog 119 = true := by kernel_rfl
theorem ce_120 : calleeB Tryz.prog 120 = true := by kernel_rfl
theorem ce_121 : calleeB Tryz.prog 121 = true := by kernel_rfl
theorem ce_122 : calleeB Tryz.prog 122 = true := by kernel_rfl
theorem ce_123 : calleeB Tryz.prog 123 = true := by kernel_rfl
theorem ce_124 : calleeB Tryz.prog 124 = true := by kernel_rfl
theorem ce_132 : calleeB Tryz.prog 132 = true := by kernel_rfl
theorem ce_133 : calleeB Tryz.prog 133 = true := by kernel_rfl
theorem ce_134 : calleeB Tryz.prog 134 = true := by kernel_rfl
theorem ce_135 : calleeB Tryz.prog 135 = true := by kernel_rfl
theorem ce_136 : calleeB Tryz.prog 136 = true := by kernel_rfl
theorem ce_142 : calleeB Tryz.prog 142 = true := by kernel_rfl
theorem ce_32 : calleeB Tryz.prog 32 = true := by kernel_rfl
theorem ce_33 : calleeB Tryz.prog 33 = true := by kernel_rfl
theorem ce_34 : calleeB Tryz.prog 34 = true := by kernel_rfl
theorem ce_35 : calleeB Tryz.prog 35 = true := by kernel_rfl
theorem ce_36 : calleeB Tryz.prog 36 = true := by kernel_rfl
theorem ce_50 : calleeB Tryz.prog 50 = true := by kernel_rfl
theorem ce_51 : calleeB Tryz.prog 51 = true := by kernel_rfl
theorem ce_52 : calleeB Tryz.prog 52 = true := by kernel_rfl
theorem ce_53 : calleeB Tryz.prog 53 = true := by kernel_rfl
theorem ce_54 : calleeB Tryz.prog 54 = true := by kernel_rfl
theorem ce_55 : calleeB Tryz.prog 55 = true := by kernel_rfl
theorem ce_56 : calleeB Tryz.prog 56 = true := by kernel_rfl
theorem ce_57 : calleeB Tryz.prog 57 = true := by kernel_rfl
theorem ce_58 : calleeB Tryz.prog 58 = true := by kernel_rfl
theorem ce_59 : calleeB Tryz.prog 59 = true := by kernel_rfl
theorem ce_60 : calleeB Tryz.prog 60 = true := by kernel_rfl
theorem ce_61 : calleeB Tryz.prog 61 = true := by kernel_rfl
theorem ce_62 : calleeB Tryz.prog 62 = true := by kernel_rfl
theorem ce_63 : calleeB Tryz.prog 63 = true := by kernel_rfl
theorem ce_64 : calleeB Tryz.prog 64 = true := by kernel_rfl
theorem ce_73 : calleeB Tryz.prog 73 = true := by kernel_rfl
theorem ce_74 : calleeB Tryz.prog 74 = true := by kernel_rfl
theorem ce_75 : calleeB Tryz.prog 75 = true := by kernel_rfl
theorem ce_76 : calleeB Tryz.prog 76 = true := by kernel_rfl
theorem ce_77 : calleeB Tryz.prog 77 = true := by kernel_rfl
theorem ce_78 : calleeB Tryz.prog 78 = true := by kernel_rfl
theorem ce_79 : calleeB Tryz.prog 79 = true := by kernel_rfl
theorem ce_80 : calleeB Tryz.prog 80 = true := by kernel_rfl
theorem ce_81 : calleeB Tryz.prog 81 = true := by kernel_rfl
theorem ce_82 : calleeB Tryz.prog 82 = true := by kernel_rfl
theorem ce_83 : calleeB Tryz.prog 83 = true := by kernel_rfl
theorem ce_84 : calleeB Tryz.prog 84 = true := by kernel_rfl
theorem ce_85 : calleeB Tryz.prog 85 = true := by kernel_rfl
theorem ce_86 : calleeB Tryz.prog 86 = true := by kernel_rfl
theorem ce_87 : calleeB Tryz.prog 87 = true := by kernel_rfl
theorem ce_88 : calleeB Tryz.prog 88 = true := by kernel_rfl
theorem ce_89 : calleeB Tryz.prog 89 = true := by kernel_rfl
theorem ce_90 : calleeB Tryz.prog 90 = true := by kernel_rfl
theorem ce_91 : calleeB Tryz.prog 91 = true := by kernel_rfl
theorem ce_92 : calleeB Tryz.prog 92 = true := by kernel_rfl
theorem ce_93 : calleeB Tryz.prog 93 = true := by kernel_rfl
theorem ce_94 : calleeB Tryz.prog 94 = true := by kernel_rfl
theorem ce_95 : calleeB Tryz.prog 95 = true := by kernel_rfl
theorem ce_96 : calleeB Tryz.prog 96 = true := by kernel_rfl
theorem ce_97 : calleeB Tryz.prog 97 = true := by kernel_rfl
theorem ce_98 : calleeB Tryz.prog 98 = true := by kernel_rfl
theorem ce_99 : calleeB Tryz.prog 99 = true := by kernel_rfl
theorem el_161 : elemOf Tryz.prog 161 = some (2, 1, 8, [.int .i64 0]) := by kernel_rfl
theorem el_35 : elemOf Tryz.prog 35 = some (3, 1, 8, [.int .i64 0]) := by kernel_rfl
theorem el_53 : elemOf Tryz.prog 53 = some (93, 5, 64, [.string ⟨#[]⟩, .int .i64 0, .int .i64 0, .int .i64 0, .slice none 0 0]) := by kernel_rfl
theorem el_54 : elemOf Tryz.prog 54 = some (5, 1, 1, [.int .u8 0]) := by kernel_rfl
theorem el_91 : elemOf Tryz.prog 91 = some (98, 11, 104, [.int .i64 0, .int .i64 0, .int .i64 0, .int .i64 0, .int .i64 0, .int .i64 0, .int .i64 0, .int .i64 0, .int .i64 0, .int .i64 0, .slice none 0 0]) := by kernel_rfl
theorem fo_130_0 : fieldOff Tryz.prog 130 0 = some 0 := by kernel_rfl
theorem fo_130_1 : fieldOff Tryz.prog 130 1 = some 5 := by kernel_rfl
theorem fo_130_2 : fieldOff Tryz.prog 130 2 = some 6 := by kernel_rfl
theorem fo_93_2 : fieldOff Tryz.prog 93 2 = some 2 := by kernel_rfl
theorem fo_93_4 : fieldOff Tryz.prog 93 4 = some 4 := by kernel_rfl
theorem kd_2 : kindOf Tryz.prog 2 = some .i64 := by kernel_rfl
theorem sh_130 : structShape Tryz.prog 130 = some ([.string ⟨#[]⟩, .int .i64 0, .int .i64 0, .int .i64 0, .slice none 0 0, .int .i64 0, .int .i64 0], [(0, 5), (5, 1), (6, 1)]) := by kernel_rfl
theorem sh_56 : structShape Tryz.prog 56 = some ([.slice none 0 0, .slice none 0 0, .int .i64 0], [(0, 1), (1, 1), (2, 1)]) := by kernel_rfl
theorem sh_93 : structShape Tryz.prog 93 = some ([.string ⟨#[]⟩, .int .i64 0, .int .i64 0, .int .i64 0, .slice none 0 0], [(0, 1), (1, 1), (2, 1), (3, 1), (4, 1)]) := by kernel_rfl
theorem sh_98 : structShape Tryz.prog 98 = some ([.int .i64 0, .int .i64 0, .int .i64 0, .int .i64 0, .int .i64 0, .int .i64 0, .int .i64 0, .int .i64 0, .int .i64 0, .int .i64 0, .slice none 0 0], [(0, 1), (1, 1), (2, 1), (3, 1), (4, 1), (5, 1), (6, 1), (7, 1), (8, 1), (9, 1), (10, 1)]) := by kernel_rfl
theorem so_161 : sliceOf Tryz.prog 161 = some 2 := by kernel_rfl
theorem so_53 : sliceOf Tryz.prog 53 = some 93 := by kernel_rfl
theorem so_91 : sliceOf Tryz.prog 91 = some 98 := by kernel_rfl
theorem ss_161 : sliceSz Tryz.prog 161 = some (2, 1) := by kernel_rfl
theorem st_9 : isStr Tryz.prog 9 = true := by kernel_rfl
theorem zc_3 : zeroCellsOf Tryz.prog 3 = some [.int .i64 0] := by kernel_rfl
theorem zc_56 : zeroCellsOf Tryz.prog 56 = some [.slice none 0 0, .slice none 0 0, .int .i64 0] := by kernel_rfl
theorem zc_87 : zeroCellsOf Tryz.prog 87 = some [.pointer none] := by kernel_rfl
theorem zc_93 : zeroCellsOf Tryz.prog 93 = some [.string ⟨#[]⟩, .int .i64 0, .int .i64 0, .int .i64 0, .slice none 0 0] := by kernel_rfl
end Go.Proofs.YtpgbpdnmjeoeoaaGreat.B

namespace Go.Proofs.YtpgbpdnmjeoeoaaGreat.B
open Go Go.RowKit
structure Bd where
 name : List UInt8
 params : Int
 regs : Int
 slots : Int
 code : List Ins
 labels : Int
 next : Int
 deriving Inhabited
structure BdOk (N : Nat) (b : Bd) : Prop where
 n0 : 0 ≤ b.next
 n1 : b.next ≤ (N : Int)
 r0 : 0 ≤ b.regs
 r1 : b.regs ≤ (N : Int)
 l0 : 0 ≤ b.labels
 l1 : b.labels ≤ (N : Int)
 c : b.code.length ≤ N
abbrev BM (α : Type) := Bd → α × Bd
def bnd {α β : Type} (x : BM α) (f : α → BM β) : BM β := fun b => f (x b).1 (x b).2
def rtn {α : Type} (a : α) : BM α := fun b => (a, b)
theorem bq {α β : Type} {x : BM α} {f : α → BM β} {b b' : Bd} {a : α} (h : x b = (a, b')) : bnd x f b = f a b' := by unfold bnd; rw [h]
def regM : BM Int := fun b => (b.next, { b with next := b.next + 1, regs := if b.next + 1 > b.regs then b.next + 1 else b.regs })
def putM (i : Ins) : BM Unit := fun b => ((), { b with code := b.code ++ [i] })
def labelM : BM Int := fun b => (b.labels + 1, { b with labels := b.labels + 1 })
def bdC (b : Bd) (sl : T) : List T := [sv b.name, zi b.params, zi b.regs, zi b.slots, sl, zi b.labels, zi b.next]
def BdE (p : Nat) (b : Bd) (A : Option Addr) (c : Nat) : St := [.box p 130 (bdC b (.v (.slice A b.code.length c))), .row A b.code.length c 98 11 (b.code.flatMap insCells)]
theorem bd_put {p c : Nat} {b : Bd} {A : Option Addr} {i : Ins} : BdE p (putM i b).2 A c = [.box p 130 (bdC b (.v (.slice A (b.code.length + 1) c))), .row A (b.code.length + 1) c 98 11 (b.code.flatMap insCells ++ insCells i)] := by
 unfold BdE putM
 simp only [List.length_append, List.length_cons, List.length_nil, List.flatMap_append, List.flatMap_cons, List.flatMap_nil, List.append_nil, Nat.zero_add]
 rfl
theorem putM_ok {N : Nat} {b : Bd} (h : BdOk N b) (i : Ins) : BdOk (N + 1) (putM i b).2 := ⟨h.n0, by have := h.n1; show b.next ≤ _; omega, h.r0, by have := h.r1; show b.regs ≤ _; omega, h.l0, by have := h.l1; show b.labels ≤ _; omega, by have := h.c; show (b.code ++ [i]).length ≤ _; simp; omega⟩
theorem regM_ok {N : Nat} {b : Bd} (h : BdOk N b) : BdOk (N + 1) (regM b).2 := by
 have h1 := h.n0
 have h2 := h.n1
 have h3 := h.r0
 have h4 := h.r1
 refine ⟨?_, ?_, ?_, ?_, h.l0, by have := h.l1; show b.labels ≤ _; omega, by have := h.c; show b.code.length ≤ _; omega⟩
 ·show 0 ≤ b.next + 1; omega
 ·show b.next + 1 ≤ _; omega
 ·show 0 ≤ (if b.next + 1 > b.regs then b.next + 1 else b.regs); split <;> omega
 show (if b.next + 1 > b.regs then b.next + 1 else b.regs) ≤ _; split <;> omega
theorem labelM_ok {N : Nat} {b : Bd} (h : BdOk N b) : BdOk (N + 1) (labelM b).2 := ⟨h.n0, by have := h.n1; show b.next ≤ _; omega, h.r0, by have := h.r1; show b.regs ≤ _; omega, by have := h.l0; show 0 ≤ b.labels + 1; omega, by have := h.l1; show b.labels + 1 ≤ _; omega, by have := h.c; show b.code.length ≤ _; omega⟩
theorem BdOk.mono {N M : Nat} {b : Bd} (h : BdOk N b) (hm : N ≤ M) : BdOk M b := ⟨h.n0, by have := h.n1; omega, h.r0, by have := h.r1; omega, h.l0, by have := h.l1; omega, Nat.le_trans h.c hm⟩
def BR {α : Type} (f : BM α) (b : Bd) (p K : Nat) (tr : α → T) (t : T) (S : St) : Prop := ∃ d b' A' c', f b = (d, b') ∧ BdOk K b' ∧ t = tr d ∧ S = BdE p b' A' c'
def insI (k d a b l f cond real size imm : Int) : Ins := ⟨k, d, a, b, l, f, cond, real, size, imm, []⟩
/-! ### the methods -/
def mC (n : Int) : BM Int := bnd regM fun d => bnd (putM (insI 1 d 0 0 0 0 0 0 0 n)) fun _ => rtn d
def mSetC (d n : Int) : BM Unit := putM (insI 1 d 0 0 0 0 0 0 0 n)
def mSet (d a : Int) : BM Unit := putM (insI 2 d a 0 0 0 0 0 0 0)
def mCopy (a : Int) : BM Int := bnd regM fun d => bnd (mSet d a) fun _ => rtn d
def mOp (k a c : Int) : BM Int := bnd regM fun d => bnd (putM (insI k d a c 0 0 0 0 0 0)) fun _ => rtn d
def mInto (d k a c : Int) : BM Unit := putM (insI k d a c 0 0 0 0 0 0)
def mOpC (k a n : Int) : BM Int := bnd (mC n) fun x => mOp k a x
def mIntoC (d k a n : Int) : BM Unit := bnd (mC n) fun x => mInto d k a x
def mAdd (a c : Int) : BM Int := mOp 3 a c
def mAddC (a n : Int) : BM Int := mOpC 3 a n
def mSub (a c : Int) : BM Int := mOp 4 a c
def mAnd (a n : Int) : BM Int := mOpC 9 a n
def mShl (a n : Int) : BM Int := mOpC 12 a n
def mShr (a n : Int) : BM Int := mOpC 13 a n
def mIncr (d n : Int) : BM Unit := mIntoC d 3 d n
def mLoad (a off size : Int) : BM Int := bnd regM fun d => bnd (putM (insI 17 d a 0 0 0 0 0 size off)) fun _ => rtn d
def mGet (a off : Int) : BM Int := mLoad a off 8
def mStore (a off size x : Int) : BM Unit := putM (insI 18 0 a x 0 0 0 0 size off)
def mSave (a off x : Int) : BM Unit := mStore a off 8 x
def mData (off : Int) : BM Int := bnd regM fun d => bnd (putM (insI 27 d 0 0 0 0 0 0 0 off)) fun _ => rtn d
def mCell (off : Int) : BM Int := bnd (mData off) fun x => mGet x 0
def mSetCell (off x : Int) : BM Unit := bnd (mData off) fun y => mSave y 0 x
def mAt (l : Int) : BM Unit := putM (insI 19 0 0 0 l 0 0 0 0 0)
def mJump (l : Int) : BM Unit := putM (insI 20 0 0 0 l 0 0 0 0 0)
def mIf (cond a c l : Int) : BM Unit := putM (insI 21 0 a c l 0 cond 0 0 0)
def mIfC (cond a n l : Int) : BM Unit := bnd (mC n) fun x => mIf cond a x l
def mRet (a : Int) : BM Unit := putM (insI 26 0 a 0 0 0 0 0 0 0)
def mRetC (n : Int) : BM Unit := bnd (mC n) fun x => mRet x
def mCall (f : Int) (args : List Int) : BM Int := bnd regM fun d => bnd (putM ⟨22, d, 0, 0, 0, f, 0, 0, 0, 0, args⟩) fun _ => rtn d
def mTail (f : Int) (args : List Int) : BM Unit := putM ⟨24, 0, 0, 0, 0, f, 0, 0, 0, 0, args⟩
def mSys (n : Int) (args : List Int) : BM Int := bnd regM fun d => bnd (putM ⟨30, d, 0, 0, 0, 0, 0, 0, 0, n, args⟩) fun _ => rtn d
def turnF (cond : Int) : Int × Bool := if cond = 1 then (2, false) else if cond = 2 then (1, false) else if cond = 3 then (4, true) else if cond = 4 then (3, true) else if cond = 5 then (6, true) else (5, true)
def mUnless (cond a c l : Int) : BM Unit := if (turnF cond).2 = true then mIf (turnF cond).1 c a l else mIf (turnF cond).1 a c l
def mThen (cond a c : Int) (f : BM Unit) : BM Unit := bnd labelM fun l => bnd (mUnless cond a c l) fun _ => bnd f fun _ => mAt l
def mThenC (cond a n : Int) (f : BM Unit) : BM Unit := bnd (mC n) fun x => mThen cond a x f
def mWhile (cond : Int) (sides : BM (Int × Int)) (f : BM Unit) : BM Unit := bnd labelM fun top => bnd labelM fun e => bnd (mAt top) fun _ => bnd sides fun s => bnd (mUnless cond s.1 s.2 e) fun _ => bnd f fun _ => bnd (mJump top) fun _ => mAt e
def mEmptied : BM Unit := bnd (mCell 256) fun x => mSetCell 264 x
def bd0 (name : List UInt8) (params : Int) : Bd := ⟨name, params, params, 0, [], 0, params⟩
theorem len4 {a b c d : T} : [a, b, c, d].length = 4 * 1 := rfl
theorem len3 {a b c : T} : [a, b, c].length = 3 * 1 := rfl
theorem lit_at {l : List Int} {k : Nat} (h : k < l.length) : (l.map zi)[k * 1 + 0]? = some (zi (l.getD k 0)) := by
 rw [Nat.mul_one, Nat.add_zero, List.getElem?_map, List.getElem?_eq_getElem h]
 simp [h]
theorem flat_one {α : Type} (x : α) : ∀ n : Nat, (List.replicate n [x]).flatten = List.replicate n x
 | 0 => rfl
 | n + 1 => by rw [List.replicate_succ, List.flatten_cons, flat_one x n]; rfl
def msgB : List UInt8 := [111, 117, 116, 32, 111, 102, 32, 109, 101, 109, 111, 114, 121, 0, 0, 0]
def xr (k : Nat) : Nat → Int
 | 0 => 0
 | r + 1 => bitsOf .or .i64 (IntKind.i64.wrap (xr k r * 256)) (((msgB.getD (8 * k + (7 - r)) 0).toNat : Nat) : Int)
def stepN (f : Nat → BM Unit) : Nat → BM Unit
 | 0 => rtn ()
 | k + 1 => bnd (stepN f k) fun _ => f k
theorem stepN_succ {f : Nat → BM Unit} {k : Nat} {b b1 b2 : Bd} (h : stepN f k b = ((), b1)) (h2 : f k b1 = ((), b2)) : stepN f (k + 1) b = ((), b2) := (bq h).trans h2
def fnB (b : Bd) : Fn := ⟨b.name, b.params, b.regs, b.slots, b.code⟩
def BRF (f : BM Unit) (b : Bd) (p K : Nat) (F : St) (t : T) (S : St) : Prop := t = .tup [] ∧ ∃ b' A' c', f b = ((), b') ∧ BdOk K b' ∧ S = F ++ BdE p b' A' c'
def BR2 (f : BM (Int × Int)) (b : Bd) (p K : Nat) (F : St) (t : T) (S : St) : Prop := ∃ x y b' A' c', t = .tup [zi x, zi y] ∧ f b = ((x, y), b') ∧ BdOk K b' ∧ S = F ++ BdE p b' A' c'
theorem nilSl : Le (.v (.slice none 0 0)) (.sl 1 (([] : List Int).map zi)) := fun w L u h => by cases h; exact .sl0 (Nat.zero_le _)
theorem nil_le {k d a b l f cond real size imm : Int} : Le (.agg [zi k, zi d, zi a, zi b, zi l, zi f, zi cond, zi real, zi size, zi imm, .v (.slice none 0 0)]) (.agg (insCells (insI k d a b l f cond real size imm))) := Le.agg (.cons .refl (.cons .refl (.cons .refl (.cons .refl (.cons .refl (.cons .refl (.cons .refl (.cons .refl (.cons .refl (.cons .refl (.cons (fun w L u h => by cases h; exact .sl0 (Nat.zero_le _)) .refl)))))))))))
section
variable {cx : Cx} {env : Env} {S : St} {o : Oper} {g : Bool} {x y z : Operand}
theorem Yv.max2 {t1 t2 : TypeId} {k : IntKind} {p q : Int} (ho : o.op = .call { callee := .builtin .max, args := #[x, y], argTypes := #[t1, t2] }) (hx : Ev env g x (.v (.int k p))) (hy : Ev env g y (.v (.int k q))) : Yv cx o env S g (.v (.int k (if q > p then q else p))) :=
 Yv.plain fun ac w hs hg w' => by
  simp [execOp, ho, resolve, invoke, builtin, Sem.run_bind, Sem.run_pure, Builtin.max_, Builtin.max2, hx.val hs hg, hy.val hs hg]
theorem freeMk {fn : Go.Fn} {fs cs : Array Operand} {ft ct : List T} {fu cu : List Value} (ho : o.op = .makeFunc fn fs cs) (hf : Evs env true fs.toList ft) (hfu : valsOf ft = some fu) (hc : Evs env true cs.toList ct) (hcu : valsOf ct = some cu) : ∀ a w, Sim cx env S a w → ∃ u, VRep w (cx.X ++ M S) (.v (.func fn fu.toArray cu.toArray)) u ∧ ∀ w', (execOp a.eval o).run cx.P w' = .ok (.value u) w' := fun a w hs => ⟨_, .v _, fun w' => by
    have e1 := hf.valsOf_ hs rfl hfu
    have e2 := hc.valsOf_ hs rfl hcu
    have e3 : fs.map a.eval = fu.toArray := by apply Array.ext'; simp [← e1]
    have e4 : cs.map a.eval = cu.toArray := by apply Array.ext'; simp [← e2]
    simp [execOp, ho, Instr.makeFunc, Sem.run_pure, e3, e4]⟩
theorem freeAddI {ty yt : TypeId} {p q : Int} (ho : o.op = .binOp .add ty x y yt) (hx : Ev env true x (.v (.int .i64 p))) (hy : Ev env true y (.v (.int .i64 q))) (hb : -9223372036854775808 ≤ p + q ∧ p + q ≤ 9223372036854775807) : ∀ a w, Sim cx env S a w → ∃ u, VRep w (cx.X ++ M S) (.v (.int .i64 (p + q))) u ∧ ∀ w', (execOp a.eval o).run cx.P w' = .ok (.value u) w' :=
 fun a w hs => ⟨_, .v _, fun w' => by rw [exec_binOp_int ho (hx.val hs rfl) (hy.val hs rfl)]; simp [binOp, Op.intArith, Sem.run_pure, IntWalk.i64_in _ hb]⟩
theorem freeMulI {ty yt : TypeId} {p q : Int} (ho : o.op = .binOp .mul ty x y yt) (hx : Ev env true x (.v (.int .i64 p))) (hy : Ev env true y (.v (.int .i64 q))) (hb : -9223372036854775808 ≤ p * q ∧ p * q ≤ 9223372036854775807) : ∀ a w, Sim cx env S a w → ∃ u, VRep w (cx.X ++ M S) (.v (.int .i64 (p * q))) u ∧ ∀ w', (execOp a.eval o).run cx.P w' = .ok (.value u) w' :=
 fun a w hs => ⟨_, .v _, fun w' => by rw [exec_binOp_int ho (hx.val hs rfl) (hy.val hs rfl)]; simp [binOp, Op.intArith, Sem.run_pure, IntWalk.i64_in _ hb]⟩
end
end Go.Proofs.YtpgbpdnmjeoeoaaGreat.B

namespace Go.Proofs.YtpgbpdnmjeoeoaaGreat.B
open Go Go.RowKit

set_option maxHeartbeats 4000000 in
theorem cPut_ (p N : Nat) (bd : Bd) (A : Option Addr) (c : Nat) (ok : BdOk N bd) (hN : N ≤ 100000) (i : Ins) :
    ACalls Tryz.prog 51 [pv p, .agg (insCells i)] (BdE p bd A c) (fun t S => t = .tup [] ∧ ∃ A' c', (BdE p (putM i bd).2 A' c').Sublist S) := by
 have h1 := ok.c
 refine ACalls.intro Tryz.func51 rfl Tryz.ntmps51 nB rfl fun X w0 => ?_
 refine rs ?_
 refine AWL.boxOp rfl rfl (B rfl) rfl (E rfl rfl) rfl (fun b3 => ?_)
 refine AWL.perm (List.perm_append_singleton _ _).symm (nl ?_)
 refine AW.regionP rfl ?_
 refine T1 (i := 0) rfl (freeMove rfl (E rfl rfl)) ?_
 refine T1 (i := 1) rfl (freeMove rfl (E rfl rfl)) ?_
 refine T1 (i := 2) rfl (freeNil rfl (E rfl rfl)) ?_
 refine T1 (i := 3) rfl (freeField rfl fo_130_0 (E rfl rfl)) ?_
 refine T1 (i := 4) rfl (freeField rfl fo_93_4 (E rfl rfl)) ?_
 refine AWP.two (i := 5) (j := 6) (by kernel_rfl) rfl rfl ?_ ?_
 ·refine yl ag_91 1 (nl ?_)
  refine p1 6 ?_
  refine Y1 (Yv.loadBoxA rfl ag_98 (i := 0) rfl eV rfl rfl) (nl ?_)
  refine p1 7 ?_
  refine AWL.buildSliceE rfl rfl (B rfl) rfl el_91 (B rfl) rfl (evsC (E rfl rfl) evs0) nB rfl rfl (nl ?_)
  refine p1 8 ?_
  refine AWL.appendRow (i := 2) rfl rfl (B rfl) rfl el_91 (B rfl) rfl (E rfl rfl) (SrcT.sl (m := 1) so_91 (B rfl) (E rfl rfl) rfl) (by unfold maxLen; omega) (by omega) (fun A2 c2 => ?_)
  refine nl ?_
  refine p1 9 ?_
  refine Y1 (Yv.nilChk rfl eV) (nl ?_)
  refine p1 10 ?_
  refine yf fo_130_0 (nl ?_)
  refine p1 11 ?_
  refine yf fo_93_4 (nl ?_)
  refine p1 12 ?_
  refine AWL.storeBox (i := 1) rfl rfl rfl ag_91 rfl (E rfl rfl) (E rfl rfl) rfl rfl nB (nl ?_)
  refine AWP.done (by kernel_rfl) ?_
  refine retN .nil ?_
  exact ⟨rfl, A2, c2, by rw [bd_put]; exact List.sublist_cons_self _ _⟩
 refine Y1 (Yv.loadBoxA rfl ag_98 (i := 0) rfl eV rfl rfl) (nl ?_)
 refine AWP.two (i := 5) (j := 7) (by kernel_rfl) rfl rfl ?_ ?_
 ·refine yl ag_91 1 (nl ?_)
  refine p1 7 ?_
  refine AWL.buildSliceE rfl rfl (B rfl) rfl el_91 (B rfl) rfl (evsC (E rfl rfl) evs0) nB rfl rfl (nl ?_)
  refine p1 8 ?_
  refine AWL.appendRow (i := 2) rfl rfl (B rfl) rfl el_91 (B rfl) rfl (E rfl rfl) (SrcT.sl (m := 1) so_91 (B rfl) (E rfl rfl) rfl) (by unfold maxLen; omega) (by omega) (fun A2 c2 => ?_)
  refine nl ?_
  refine p1 9 ?_
  refine Y1 (Yv.nilChk rfl eV) (nl ?_)
  refine p1 10 ?_
  refine yf fo_130_0 (nl ?_)
  refine p1 11 ?_
  refine yf fo_93_4 (nl ?_)
  refine p1 12 ?_
  refine AWL.storeBox (i := 1) rfl rfl rfl ag_91 rfl (E rfl rfl) (E rfl rfl) rfl rfl nB (nl ?_)
  refine AWP.done (by kernel_rfl) ?_
  refine retN .nil ?_
  exact ⟨rfl, A2, c2, by rw [bd_put]; exact List.sublist_cons_self _ _⟩
 refine AWL.buildSliceE rfl rfl (B rfl) rfl el_91 (B rfl) rfl (evsC (E rfl rfl) evs0) nB rfl rfl (nl ?_)
 refine p1 5 ?_
 refine yl ag_91 1 (nl ?_)
 refine p1 8 ?_
 refine AWL.appendRow (i := 2) rfl rfl (B rfl) rfl el_91 (B rfl) rfl (E rfl rfl) (SrcT.sl (m := 1) so_91 (B rfl) (E rfl rfl) rfl) (by unfold maxLen; omega) (by omega) (fun A2 c2 => ?_)
 refine nl ?_
 refine p1 9 ?_
 refine Y1 (Yv.nilChk rfl eV) (nl ?_)
 refine p1 10 ?_
 refine yf fo_130_0 (nl ?_)
 refine p1 11 ?_
 refine yf fo_93_4 (nl ?_)
 refine p1 12 ?_
 refine AWL.storeBox (i := 1) rfl rfl rfl ag_91 rfl (E rfl rfl) (E rfl rfl) rfl rfl nB (nl ?_)
 refine AWP.done (by kernel_rfl) ?_
 refine retN .nil ?_
 exact ⟨rfl, A2, c2, by rw [bd_put]; exact List.sublist_cons_self _ _⟩

theorem cPut (p N : Nat) (bd : Bd) (A : Option Addr) (c : Nat) (ok : BdOk N bd) (hN : N ≤ 100000) (i : Ins) : ACalls Tryz.prog 51 [pv p, .agg (insCells i)] (BdE p bd A c) (BR (putM i) bd p (N + 1) (fun _ => .tup [])) :=
 (cPut_ p N bd A c ok hN i).less fun t S' h => by
  obtain ⟨rfl, A', c', h⟩ := h
  exact ⟨_, h, _, _, A', c', rfl, putM_ok ok i, rfl, rfl⟩
set_option maxHeartbeats 4000000 in
theorem cReg (p N : Nat) (bd : Bd) (A : Option Addr) (c : Nat) (ok : BdOk N bd) (hN : N ≤ 100000) :
    ACalls Tryz.prog 50 [pv p] (BdE p bd A c) (BR regM bd p (N + 1) zi) := by
 have h1 := ok.n0
 have h2 := ok.n1
 refine ACalls.intro Tryz.func50 rfl Tryz.ntmps50 nB rfl fun X w0 => ?_
 refine ra ?_
 refine rs (ym ?_)
 refine Y1 (Yv.nilChk rfl eV) ?_
 refine yf fo_130_2 ?_
 refine yl ag_3 0 ?_
 refine Y1 (Yv.addN_i64 rfl eV eV (fun hg => by omega)) ?_
 refine Y1 (Yv.nilChk rfl eV) ?_
 refine yf fo_130_2 ?_
 refine AWL.storeBox (i := 0) rfl rfl rfl ag_3 rfl (E rfl rfl) (E rfl rfl) rfl rfl nB (nl ?_)
 refine AW.rseqP rfl ?_
 refine T1 (i := 0) rfl (freeMove rfl (E rfl rfl)) ?_
 refine T1 (i := 1) rfl (freeMove rfl (E rfl rfl)) ?_
 refine T1 (i := 2) rfl (freeNil rfl (E rfl rfl)) ?_
 refine T1 (i := 3) rfl (freeField rfl fo_130_0 (E rfl rfl)) ?_
 refine T1 (i := 4) rfl (freeField rfl fo_93_2 (E rfl rfl)) ?_
 refine T1 (i := 6) rfl (freeMove rfl (E rfl rfl)) ?_
 refine T1 (i := 7) rfl (freeNil rfl (E rfl rfl)) ?_
 refine T1 (i := 8) rfl (freeField rfl fo_130_2 (E rfl rfl)) ?_
 refine AWP.phase [false, false, false, false, false, true, false, false, false, true, true] 4 rfl (by kernel_rfl) (by kernel_rfl) ?_
 refine ql ag_3 0 ?_
 refine ql ag_3 0 ?_
 refine Q1 (Yv.max2 rfl eV eV) ?_
 refine AWQ.nil ?_
 refine p1 11 ?_
 refine Y1 (Yv.nilChk rfl eV) (nl ?_)
 refine p1 12 ?_
 refine yf fo_130_0 (nl ?_)
 refine p1 13 ?_
 refine yf fo_93_2 (nl ?_)
 refine p1 14 ?_
 refine AWL.storeBox (i := 0) rfl rfl rfl ag_3 rfl (E rfl rfl) (E rfl rfl) rfl rfl nB (nl ?_)
 refine AWP.done (by kernel_rfl) ?_
 refine rs (ym ?_)
 refine Y1 (Yv.nilChk rfl eV) ?_
 refine yf fo_130_2 ?_
 refine yl ag_3 0 ?_
 refine Y1 (Yv.subN_i64 rfl eV eV (fun hg => by omega)) ?_
 refine ya ?_
 refine AW.ret (retI (.tmp rfl .nil) ?_)
 exact ⟨_, _, _, _, rfl, regM_ok ok, (by rw [Int.add_sub_cancel]; rfl), rfl⟩

set_option maxHeartbeats 4000000 in
theorem cLabel (p N : Nat) (bd : Bd) (A : Option Addr) (c : Nat) (ok : BdOk N bd) (hN : N ≤ 100000) :
    ACalls Tryz.prog 84 [pv p] (BdE p bd A c) (BR labelM bd p (N + 1) zi) := by
 have h1 := ok.l0
 have h2 := ok.l1
 refine ACalls.intro Tryz.func84 rfl Tryz.ntmps84 nB rfl fun X w0 => ?_
 refine ra ?_
 refine rs (ym ?_)
 refine Y1 (Yv.nilChk rfl eV) ?_
 refine yf fo_130_1 ?_
 refine yl ag_3 0 ?_
 refine Y1 (Yv.addN_i64 rfl eV eV (fun hg => by omega)) ?_
 refine Y1 (Yv.nilChk rfl eV) ?_
 refine yf fo_130_1 ?_
 refine AWL.storeBox (i := 0) rfl rfl rfl ag_3 rfl (E rfl rfl) (E rfl rfl) rfl rfl nB (nl ?_)
 refine rs (ym ?_)
 refine Y1 (Yv.nilChk rfl eV) ?_
 refine yf fo_130_1 ?_
 refine yl ag_3 0 ?_
 refine ya ?_
 refine AW.ret (retI (.tmp rfl .nil) ?_)
 exact ⟨_, _, _, _, rfl, labelM_ok ok, rfl, rfl⟩

end Go.Proofs.YtpgbpdnmjeoeoaaGreat.B
