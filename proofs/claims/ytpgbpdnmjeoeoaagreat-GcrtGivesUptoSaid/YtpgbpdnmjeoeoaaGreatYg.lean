/-
  TEXTS JOINED: Zk7, Zk9, Zk10, Zk11, Zk12.
-/
import Derived.Test.YtpgbpdnmjeoeoaaGreatYf
set_option linter.unusedSimpArgs false
set_option linter.unusedVariables false
set_option linter.unusedSectionVars false
set_option linter.unnecessarySimpa false
namespace Go.Proofs.YtpgbpdnmjeoeoaaGreat
open Go Go.RowKit

theorem to_int {p : Prog} {x : Fr} {i : Ins} (hpf : p.funs.length ≤ 1048576) (h : (toN x i).toNat < p.funs.length) : T.v (.int .i64 (IntKind.i64.wrap ((((rA x i.a - 4194304#64) / 16#64).toNat : Nat) : Int))) = zi ((toN x i).toNat : Int) := by
 show zi (IntKind.i64.wrap (((toN x i).toNat : Nat) : Int)) = _
 rw [IntWalk.i64_in _ (by omega)]
theorem take_preD {pre : List T} {x : Fr} {a : FA} {k : Nat} (h : pre.length = k * 7) : (pre ++ frD x a).take (k * 7) = pre := by rw [List.take_left' h]
theorem callE_rows (s : Bool) (x : Fr) (a : FA) : frE (callF s x) a = [.row a.r x.nr x.nr 22 1 (x.r.map zw), .row a.t x.nr x.nr 4 1 ((if s = true then List.replicate x.nr false else x.set).map bv), .row a.s x.ns x.ns 22 1 (x.slot.map zw), .row a.h x.ns x.ns 4 1 (x.there.map bv)] := rfl
theorem bad_t {p : Prog} {x : Fr} {i : Ins} (h : ((decide (rA x i.a < 4194304#64) || !decide ((rA x i.a - 4194304#64) % 16#64 = 0#64)) || decide (wI (p.funs.length : Int) ≤ (rA x i.a - 4194304#64) / 16#64)) = true) : badTo p x i = true := by
 have h' : ((decide (rA x i.a < 4194304#64) || !decide ((rA x i.a - 4194304#64) % 16#64 = 0#64)) || decide (wI (p.funs.length : Int) ≤ toN x i)) = true := h
 unfold badTo
 rw [h']; rfl
theorem bad_p {p : Prog} {x : Fr} {i : Ins} (h : (!decide ((p.funs.getD (toN x i).toNat default).params = (i.args.length : Int))) = true) : badTo p x i = true := by
 unfold badTo
 rw [h, Bool.or_true]
theorem bad_n {p : Prog} {x : Fr} {i : Ins} (h : ((decide (rA x i.a < 4194304#64) || !decide ((rA x i.a - 4194304#64) % 16#64 = 0#64)) || decide (wI (p.funs.length : Int) ≤ (rA x i.a - 4194304#64) / 16#64)) = false) (h2 : (!decide ((p.funs.getD (toN x i).toNat default).params = (i.args.length : Int))) = false) : badTo p x i = false := by
 have h' : ((decide (rA x i.a < 4194304#64) || !decide ((rA x i.a - 4194304#64) % 16#64 = 0#64)) || decide (wI (p.funs.length : Int) ≤ toN x i)) = false := h
 unfold badTo
 rw [h', h2]; rfl
theorem clr_succ {l : List Bool} {j : Nat} (h : j < l.length) : (List.replicate (j + 1) false ++ l.drop (j + 1)).map bv = ((List.replicate j false ++ l.drop j).map bv).set (j * 1) (bv false) := by
 rw [Nat.mul_one, ← List.map_set, List.set_append_right _ _ (by rw [List.length_replicate]; exact Nat.le_refl _), List.length_replicate, Nat.sub_self, List.drop_eq_getElem_cons h, List.set_cons_zero, List.replicate_succ', List.append_assoc]
 rfl
set_option maxHeartbeats 16000000 in
theorem Dgoes71_ (s g c k : Nat) (ps : PS) (ob : Bool) (pre : List T) (x : Fr) (a : FA) (i : Ins) (hx : FrOk x) (hnr : x.nr ≤ 65536) (hpre : pre.length = k * 7) (hk : k < 1048576) (hkd : i.kind = 22 ∨ i.kind = 23 ∨ i.kind = 24 ∨ i.kind = 25) (hp : ProgOk ps.prog) (hpf : ps.prog.funs.length ≤ 1048576) (ha : (hasF i.kind).a = true → 0 ≤ i.a ∧ i.a < (x.nr : Int)) (har : ∀ r ∈ i.args, 0 ≤ r ∧ r < (x.nr : Int)) (hg : i.args.length ≤ 1048576) (hf : (hasF i.kind).f = true → (0 ≤ i.f ∧ i.f.toNat < ps.prog.funs.length) ∧ (i.args.length : Int) = parF ps.prog i.f) (hat : 0 ≤ x.at_ ∧ x.at_ ≤ 4611686018427387904) :
    ACalls Tryz.prog 70 [pv s, .ep (.slice (some ⟨g, 0, none⟩) (k + 1) c) pre.length, .agg (insCells i)] ([Ent.box s 75 (psD ps ob (.v (.slice (some ⟨g, 0, none⟩) (k + 1) c))), Ent.row (some ⟨g, 0, none⟩) (k + 1) c 116 7 (pre ++ frD x a)] ++ frE x a) (fun t S => match calleeF ps.prog x i with
    | none => t = bv false ∧ ([Ent.box s 75 (psD ps ob (.v (.slice (some ⟨g, 0, none⟩) (k + 1) c))), Ent.row (some ⟨g, 0, none⟩) (k + 1) c 116 7 (pre ++ frD x a)] ++ frE x a).Sublist S
    | some f => if i.kind = 24 ∨ i.kind = 25 then t = bv true ∧ ∃ g' c' a', ([Ent.box s 75 (psD ps ob (.v (.slice (some ⟨g', 0, none⟩) (k + 1) c'))), Ent.row (some ⟨g', 0, none⟩) (k + 1) c' 116 7 (pre ++ frD (openFr (ps.prog.funs.getD f default) f (argsF x i) x.d) a')] ++ frE (openFr (ps.prog.funs.getD f default) f (argsF x i) x.d) a').Sublist S
     else if 1048576 ≤ k + 1 then t = bv false ∧ ([Ent.box s 75 (psD ps ob (.v (.slice (some ⟨g, 0, none⟩) (k + 1) c))), Ent.row (some ⟨g, 0, none⟩) (k + 1) c 116 7 (pre ++ frD x a)] ++ frE x a).Sublist S
     else t = bv true ∧ ∃ g' c' a', ([Ent.box s 75 (psD ps ob (.v (.slice (some ⟨g', 0, none⟩) (k + 2) c'))), Ent.row (some ⟨g', 0, none⟩) (k + 2) c' 116 7 (pre ++ frD (callF ps.strict x) a ++ frD (openFr (ps.prog.funs.getD f default) f (argsF x i) i.d) a')] ++ frE (openFr (ps.prog.funs.getD f default) f (argsF x i) i.d) a' ++ frE (callF ps.strict x) a).Sublist S) := by
 have hl1 := hx.r
 have hl3 := hx.t
 obtain ⟨hat0, hat1⟩ := hat
 refine ACalls.intro Tryz.func70 rfl Tryz.ntmps70 nB rfl fun X w0 => ?_
 refine rs ?_
 refine AWL.boxOp rfl rfl (B rfl) rfl (E rfl rfl) rfl (fun b5 => ?_)
 refine ya ?_
 refine rs (yf fo_98_5 ?_)
 refine yl ag_3 6 ?_
 refine ya ?_
 refine AW.mid (α := Nat) (fun f => [(0, true, pv s), (1, true, .ep (.slice (some ⟨g, 0, none⟩) (k + 1) c) pre.length), (5, true, pv b5), (7, true, .v (.int .i64 (f : Int)))]) (fun _ => ([Ent.box s 75 (psD ps ob (.v (.slice (some ⟨g, 0, none⟩) (k + 1) c))), Ent.row (some ⟨g, 0, none⟩) (k + 1) c 116 7 (pre ++ frD x a)] ++ frE x a) ++ [Ent.box b5 98 (insCells i)]) (fun f => calleeF ps.prog x i = some f) ?_ ?_
 ·refine rs (yf fo_98_0 ?_)
  refine yl ag_3 6 ?_
  refine Y1 (Yv.eql rfl eV eV) ?_
  refine ym ?_
  refine gF (Yv.fieldBox rfl fo_98_0 eV) ?_
  refine gF (Yv.loadBox rfl ag_3 (i := 6) rfl (Eg rfl rfl id) rfl) ?_
  refine gF (Yv.eql rfl (Eg rfl rfl id) eV) ?_
  refine Y1 (Yv.pickOr (t := .const (.bool true)) rfl eV (Eg rfl rfl id)) (nl ?_)
  refine AW.cond rfl (fun h0t => ?_) (fun h0f => ?_)
  ·try replace h0t := odt h0t
   have hk23 : i.kind = 23 ∨ i.kind = 25 := by simpa using h0t
   obtain ⟨ha0, ha1⟩ := ha (has_a23 hk23)
   refine AW.rseqQ rfl (by kernel_rfl) ?_
   refine qm ?_
   refine Q1 (Yv.nilChkEp rfl eV) ?_
   refine Q1 (Yv.fieldEp rfl fo_116_2 eV) ?_
   refine Q1 (Yv.loadEp rfl ag_32 (i := 1) rfl eV (fun hg => fd2)) ?_
   refine qf fo_98_2 ?_
   refine ql ag_3 6 ?_
   refine Q1 (Yv.indexRow (j := i.a.toNat) rfl ss_32 (i := 2) rfl eV eV (fun hg => ⟨(Int.toNat_of_nonneg (by omega)).symm, by omega⟩)) ?_
   refine Q1 (Yv.loadEp rfl ag_22 (i := 2) rfl eV (fun hg => word_at (by omega))) ?_
   refine Q1 (Yv.assign rfl eV) ?_
   refine AWQ.nil ?_
   refine AW.seq ?_
   refine rs (ym ?_)
   refine Y1 (Yv.lssW (b := 4194304#64) rfl eV eV) ?_
   refine ym ?_
   refine gF (Yv.move rfl eV) ?_
   refine gF (Yv.subW (b := 4194304#64) rfl (Eg rfl rfl id) eV) ?_
   refine gF (Yv.remW (b := 16#64) rfl (Eg rfl rfl id) (E rfl rfl) (by decide)) ?_
   refine gF (Yv.neqW (b := 0#64) rfl (Eg rfl rfl id) eV) ?_
   refine Y1 (Yv.pickOr (t := .const (.bool true)) rfl eV (Eg rfl rfl id)) ?_
   refine ym ?_
   refine gF (Yv.move rfl eV) ?_
   refine gF (Yv.subW (b := 4194304#64) rfl (Eg rfl rfl id) eV) ?_
   refine gF (Yv.quoW (b := 16#64) rfl (Eg rfl rfl id) (E rfl rfl) (by decide)) ?_
   refine gF (Yv.move rfl eV) ?_
   refine gF (Yv.nilChk rfl (Eg rfl rfl id)) ?_
   refine gF (Yv.fieldBox rfl fo_75_0 (Eg rfl rfl id)) ?_
   refine gF (Yv.fieldBox rfl fo_56_0 (Eg rfl rfl id)) ?_
   refine gF (Yv.loadBox rfl ag_53 (i := 0) rfl (Eg rfl rfl id) rfl) ?_
   refine gF (Yv.lenSl rfl so_53 (B rfl) (Eg rfl rfl id) len_funs) ?_
   refine gF (Yv.convW rfl Tryz.underlying3 kd_22 (Eg rfl rfl id)) ?_
   refine gF (Yv.geqW rfl (Eg rfl rfl id) (Eg rfl rfl id)) ?_
   refine Y1 (Yv.pickOr (t := .const (.bool true)) rfl eV (Eg rfl rfl id)) (nl ?_)
   refine AW.cond rfl (fun h1t => ?_) (fun h1f => ?_)
   ·try replace h1t := odt h1t
    have hbad : badTo ps.prog x i = true := bad_t h1t
    refine ra ?_
    refine AW.ret (retI (.tmp rfl .nil) ?_)
    rw [show calleeF ps.prog x i = none by rw [calleeF, if_pos hk23, if_pos hbad]]
    exact ⟨rfl, List.sublist_append_left _ _⟩
   try replace h1f := odf h1f
   have htl : (toN x i).toNat < ps.prog.funs.length := to_lt' hpf (of_decide_eq_false (Bool.or_eq_false_iff.1 h1f).2)
   refine AW.skip ?_
   refine rs (ym ?_)
   refine Y1 (Yv.subW (b := 4194304#64) rfl eV eV) ?_
   refine Y1 (Yv.quoW (b := 16#64) rfl (E rfl rfl) (E rfl rfl) (by decide)) ?_
   refine Y1 (Yv.eqT (Yv.conv rfl Tryz.underlying22 kd_3 eV) (to_int hpf htl)) ?_
   refine ya ?_
   refine AW.rseqQ rfl (by kernel_rfl) ?_
   refine qm ?_
   refine Q1 (Yv.nilChk rfl eV) ?_
   refine qf fo_75_0 ?_
   refine qf fo_56_0 ?_
   refine ql ag_53 0 ?_
   refine qm ?_
   refine Q1 (Yv.indexSl (j := (toN x i).toNat) rfl ss_53 (B rfl) eV eV (fun hg => ⟨rfl, by rw [len_funs]; omega⟩)) ?_
   refine Q1 (Yv.fieldRp rfl fo_93_1 eV) ?_
   refine Q1 (Yv.loadRp rfl ag_3 eV (fun hg => fpar_at htl)) ?_
   refine qf fo_98_10 ?_
   refine ql ag_35 6 ?_
   refine Q1 (Yv.lenSl rfl so_35 (B rfl) eV len_args) ?_
   refine Q1 (Yv.neq rfl eV eV) ?_
   refine AWQ.nil ?_
   refine AW.cond rfl (fun h2t => ?_) (fun h2f => ?_)
   ·try replace h2t := odt h2t
    have hbad : badTo ps.prog x i = true := bad_p h2t
    refine ra ?_
    refine AW.ret (retI (.tmp rfl .nil) ?_)
    rw [show calleeF ps.prog x i = none by rw [calleeF, if_pos hk23, if_pos hbad]]
    exact ⟨rfl, List.sublist_append_left _ _⟩
   try replace h2f := odf h2f
   have hgood : badTo ps.prog x i = false := bad_n h1f h2f
   refine AW.skip ?_
   refine ⟨(toN x i).toNat, ?_, (su (su (su (su sn)))), rfl⟩
   exact callee_23 hk23 hgood
  try replace h0f := odf h0f
  have hk22 : ¬ (i.kind = 23 ∨ i.kind = 25) := by simpa using h0f
  refine AW.skip ?_
  refine ⟨i.f.toNat, ?_, (su (su (su (Sub.cons rfl (by rw [Int.toNat_of_nonneg (hf (has_f (by omega))).1.1]; rfl) Sub.nil)))), rfl⟩
  exact callee_22 (by omega)
 rintro f hcal
 have hcf := callee_in hp hpf hf hkd hcal
 have hfo := fn_regs hp hcf.1
 refine ra ?_
 refine AW.rowNil 22 1 ?_
 refine AW.seq ?_
 refine ra ?_
 refine AW.block ?_
 refine AW.loop3 (fun (j : Nat) (A : Option Addr) (c2 : Nat) => [(0, true, pv s), (1, true, .ep (.slice (some ⟨g, 0, none⟩) (k + 1) c) pre.length), (5, true, pv b5), (7, true, .v (.int .i64 (f : Int))), (9, true, .v (.slice A j c2)), (10, true, .v (.int .i64 (j : Int)))]) (fun (j : Nat) (A : Option Addr) (c2 : Nat) => (([Ent.box s 75 (psD ps ob (.v (.slice (some ⟨g, 0, none⟩) (k + 1) c))), Ent.row (some ⟨g, 0, none⟩) (k + 1) c 116 7 (pre ++ frD x a)] ++ frE x a) ++ [Ent.box b5 98 (insCells i), Ent.row A j c2 22 1 (((i.args.take j).map (rA x)).map zw)])) (fun (j : Nat) (A : Option Addr) (c2 : Nat) => j ≤ i.args.length) (fun (j : Nat) (A : Option Addr) (c2 : Nat) => i.args.length - j) 0 none 0 ?_ ?_ ?_ ?_
 ·exact Nat.zero_le _
 ·exact (su (su (su (su (su (su sn))))))
 ·rfl
 intro j A c2 hinv
 refine AW.seq ?_
 refine rs (ym ?_)
 refine yf fo_98_10 ?_
 refine yl ag_35 6 ?_
 refine Y1 (Yv.lenSl rfl so_35 (B rfl) eV len_args) ?_
 refine Y1 (Yv.lss rfl eV eV) (nl ?_)
 refine AW.cond rfl (fun h3t => ?_) (fun h3f => ?_)
 ·try replace h3t := odt h3t
  have hj : j < i.args.length := by omega
  have hjr := har _ (getD_mem (l := i.args) hj)
  refine AW.skip ?_
  refine AW.seq ?_
  refine AW.block ?_
  refine AW.regionP rfl ?_
  refine T1 (i := 0) rfl (freeMove rfl (E rfl rfl)) ?_
  refine AWP.phase [false, true, true, true, true, true, true, true, true, true, true, true] 3 rfl (by kernel_rfl) (by kernel_rfl) ?_
  refine qm ?_
  refine Q1 (Yv.nilChkEp rfl eV) ?_
  refine Q1 (Yv.fieldEp rfl fo_116_2 eV) ?_
  refine Q1 (Yv.loadEp rfl ag_32 (i := 1) rfl eV (fun hg => fd2)) ?_
  refine qf fo_98_10 ?_
  refine ql ag_35 6 ?_
  refine qm ?_
  refine Q1 (Yv.indexSl rfl ss_35 (B rfl) eV eV (fun hg => ⟨rfl, (by first | omega | (simp only [len_code, len_funs, len_args, len_data, len_zw]; omega))⟩)) ?_
  refine Q1 (Yv.loadRp rfl ag_3 eV (fun hg => arg_at (by omega))) ?_
  refine Q1 (Yv.indexRow (j := (i.args.getD j default).toNat) rfl ss_32 (i := 2) rfl eV eV (fun hg => ⟨(Int.toNat_of_nonneg (by omega)).symm, by omega⟩)) ?_
  refine Q1 (Yv.loadEp rfl ag_22 (i := 2) rfl eV (fun hg => word_at (by omega))) ?_
  refine AWQ.nil ?_
  refine p1 12 ?_
  refine AWL.buildSlice1 rfl rfl (B rfl) rfl el_32 rfl (evsC (E rfl rfl) evs0) nB rfl rfl (nl ?_)
  refine p1 13 ?_
  refine AWL.appendRow (i := 7) rfl rfl (B rfl) rfl el_32 (B rfl) rfl (E rfl rfl) (SrcT.sl so_32 (B rfl) (E rfl rfl) rfl) (by unfold maxLen; omega) (by omega) (fun A89 c89 => ?_)
  refine nl ?_
  refine p1 14 ?_
  refine ya ?_
  refine AWP.done (by kernel_rfl) ?_
  refine AW.region ?_
  refine ym ?_
  refine Y1 (Yv.addN_i64 rfl eV eV (fun hg => by omega)) ?_
  refine ya ?_
  refine ⟨j + 1, A89, c89, by omega, by omega, (su (su (su (su (su (Sub.cons rfl (by simp) Sub.nil)))))), ?_⟩
  rw [take_gd (show j < i.args.length by omega), List.map_append, List.map_append]
  rfl
 try replace h3f := odf h3f
 obtain rfl : j = i.args.length := by omega
 refine AW.exit ?_
 refine AW.seq ?_
 refine rs (yf fo_98_0 ?_)
 refine yl ag_3 6 ?_
 refine Y1 (Yv.eql rfl eV eV) ?_
 refine ym ?_
 refine gF (Yv.fieldBox rfl fo_98_0 eV) ?_
 refine gF (Yv.loadBox rfl ag_3 (i := 6) rfl (Eg rfl rfl id) rfl) ?_
 refine gF (Yv.eql rfl (Eg rfl rfl id) eV) ?_
 refine Y1 (Yv.pickOr (t := .const (.bool true)) rfl eV (Eg rfl rfl id)) (nl ?_)
 refine AW.cond rfl (fun h4t => ?_) (fun h4f => ?_)
 ·try replace h4t := odt h4t
  have hk24 : i.kind = 24 ∨ i.kind = 25 := by simpa using h4t
  refine rs (ym ?_)
  refine Y1 (Yv.nilChkEp rfl eV) ?_
  refine Y1 (Yv.fieldEp rfl fo_116_6 eV) ?_
  refine Y1 (Yv.loadEp rfl ag_3 (i := 1) rfl eV (fun hg => fd6)) ?_
  refine ya ?_
  refine AW.rowLe 1 rfl (fun hkc => ?_)
  refine AW.rseqP rfl ?_
  refine AWP.phase [true, true, true, true, true, true, true, true, true, true, true, true, true, true] 1 rfl (by kernel_rfl) (by kernel_rfl) ?_
  refine qm ?_
  refine qm ?_
  refine Q1 (Yv.nilChk rfl eV) ?_
  refine qf fo_75_6 ?_
  refine ql ag_73 0 ?_
  refine qm ?_
  refine Q1 (Yv.nilChk rfl eV) ?_
  refine qf fo_75_6 ?_
  refine ql ag_73 0 ?_
  refine Q1 (Yv.lenV rfl so_73 eV) ?_
  refine Q1 (Yv.subN_i64 rfl eV eV (fun hg => by omega)) ?_
  refine Q1 (Yv.sliceRow0 (i := 1) (m := k) rfl ss_73 rfl eV (Bound.some_ eV (fun hg => by omega)) (fun hg => by omega)) ?_
  refine Q1 (Yv.nilChk rfl eV) ?_
  refine qf fo_75_6 ?_
  refine AWQ.nil ?_
  refine p1 14 ?_
  refine AWL.storeBox (i := 0) rfl rfl rfl ag_73 rfl (E rfl rfl) (E rfl rfl) rfl rfl nB (nl ?_)
  refine AWP.done (by kernel_rfl) ?_
  refine AW.shrink 1 k rfl (by omega) ?_
  refine AW.eqS (S' := ([Ent.box s 75 (psD ps ob (.v (.slice (some ⟨g, 0, none⟩) k c))), Ent.row (some ⟨g, 0, none⟩) k c 116 7 (pre)] ++ frE x a) ++ [Ent.box b5 98 (insCells i), Ent.row A i.args.length c2 22 1 (((i.args.take i.args.length).map (rA x)).map zw)]) (by
   rw [take_preD hpre]
   rfl) ?_
  rw [List.take_length]
  refine AW.freeze 7 9 rfl (B rfl) rfl ?_
  refine rs (ym ?_)
  refine ym ?_
  refine ym ?_
  refine ym ?_
  refine C1 rfl ce_40 (E rfl rfl) (evsC (E rfl rfl) (evsC (E rfl rfl) (evsC (E rfl rfl) (evsC (E rfl rfl) evs0)))) (S1 := [Ent.box s 75 (psD ps ob (.v (.slice (some ⟨g, 0, none⟩) k c))), Ent.row (some ⟨g, 0, none⟩) k c 116 7 (pre)]) (S2 := _) rfl (Dopen43 s ps ob f (i.args.map (rA x)) x.d (some ⟨g, 0, none⟩) k c pre hcf.1 hpf hfo.1 hfo.2.1 hfo.2.2.1 hfo.2.2.2 hcf.2 (by omega)) ?_
  rintro t120 S120 ⟨rfl, g2, c3, a2, rfl⟩
  refine nl ?_
  refine ra ?_
  refine AW.ret (retI (.tmp rfl .nil) ?_)
  rw [hcal]
  simp only [if_pos hk24]
  exact ⟨rfl, g2, c3, a2, List.sublist_append_left _ _⟩
 try replace h4f := odf h4f
 have hk24 : ¬ (i.kind = 24 ∨ i.kind = 25) := by simpa using h4f
 refine AW.skip ?_
 refine AW.seq ?_
 refine rs (ym ?_)
 refine Y1 (Yv.nilChk rfl eV) ?_
 refine yf fo_75_6 ?_
 refine yl ag_73 0 ?_
 refine Y1 (Yv.lenV rfl so_73 eV) ?_
 refine Y1 (Yv.geq rfl eV eV) (nl ?_)
 refine AW.cond rfl (fun h5t => ?_) (fun h5f => ?_)
 ·try replace h5t := odt h5t
  refine ra ?_
  refine AW.ret (retI (.tmp rfl .nil) ?_)
  rw [hcal]
  simp only [if_neg hk24]
  rw [if_pos (by omega)]
  exact ⟨rfl, List.sublist_append_left _ _⟩
 try replace h5f := odf h5f
 refine AW.skip ?_
 refine rs (ym ?_)
 refine Y1 (Yv.nilChkEp rfl eV) ?_
 refine Y1 (Yv.fieldEp rfl fo_116_1 eV) ?_
 refine Y1 (Yv.loadEp rfl ag_3 (i := 1) rfl eV (fun hg => fd1)) ?_
 refine Y1 (Yv.addN_i64 rfl eV eV (fun hg => by omega)) ?_
 refine Y1 (Yv.nilChkEp rfl eV) ?_
 refine Y1 (Yv.fieldEp rfl fo_116_1 eV) ?_
 refine AWL.storeEp1 (i := 1) rfl rfl rfl ag_3 rfl (E rfl rfl) (E rfl rfl) rfl rfl (by rw [fd_len]; omega) (nl ?_)
 refine AW.eqS (S' := ([Ent.box s 75 (psD ps ob (.v (.slice (some ⟨g, 0, none⟩) (k + 1) c))), Ent.row (some ⟨g, 0, none⟩) (k + 1) c 116 7 (pre ++ frD (goF x) a)] ++ frE x a) ++ [Ent.box b5 98 (insCells i), Ent.row A i.args.length c2 22 1 (((i.args.take i.args.length).map (rA x)).map zw)]) (by rw [show (pre ++ frD (goF x) a) = (pre ++ frD x a).set (pre.length + 1) (zi (x.at_ + 1)) from (fd_jump _).symm]; rfl) ?_
 refine AW.seq ?_
 refine rs (ym ?_)
 refine Y1 (Yv.nilChk rfl eV) ?_
 refine yf fo_75_3 ?_
 refine yl ag_4 0 (nl ?_)
 refine AW.cond rfl (fun h6t => ?_) (fun h6f => ?_)
 ·try replace h6t := odt h6t
  refine ra ?_
  refine AW.block ?_
  refine AW.loop (fun (j : Nat) => [(0, true, pv s), (1, true, .ep (.slice (some ⟨g, 0, none⟩) (k + 1) c) pre.length), (5, true, pv b5), (7, true, .v (.int .i64 (f : Int))), (9, true, .v (.slice A i.args.length c2)), (12, true, .v (.int .i64 (j : Int)))]) (fun (j : Nat) => ([Ent.box s 75 (psD ps ob (.v (.slice (some ⟨g, 0, none⟩) (k + 1) c))), Ent.row (some ⟨g, 0, none⟩) (k + 1) c 116 7 (pre ++ frD (goF x) a)] ++ [.row a.r x.nr x.nr 22 1 (x.r.map zw), .row a.t x.nr x.nr 4 1 ((List.replicate j false ++ x.set.drop j).map bv), .row a.s x.ns x.ns 22 1 (x.slot.map zw), .row a.h x.ns x.ns 4 1 (x.there.map bv)]) ++ [Ent.box b5 98 (insCells i), Ent.row A i.args.length c2 22 1 (((i.args.take i.args.length).map (rA x)).map zw)]) (fun (j : Nat) => j ≤ x.nr) (fun (j : Nat) => x.nr - j) 0 ?_ ?_ ?_ ?_
  ·exact Nat.zero_le _
  ·exact (su (su (su (su (su (su sn))))))
  ·rfl
  intro j hinv
  refine AW.seq ?_
  refine rs (ym ?_)
  refine ym ?_
  refine Y1 (Yv.nilChkEp rfl eV) ?_
  refine Y1 (Yv.fieldEp rfl fo_116_3 eV) ?_
  refine Y1 (Yv.loadEp rfl ag_114 (i := 1) rfl eV (fun hg => fd3)) ?_
  refine Y1 (Yv.lenV rfl so_114 eV) ?_
  refine Y1 (Yv.lss rfl eV eV) (nl ?_)
  refine AW.cond rfl (fun h7t => ?_) (fun h7f => ?_)
  ·try replace h7t := odt h7t
   have e9 : (goF x).nr = x.nr := rfl
   have hjr : j < x.nr := by omega
   refine AW.skip ?_
   refine AW.seq ?_
   refine AW.block ?_
   refine AW.region ?_
   refine ym ?_
   refine Y1 (Yv.nilChkEp rfl eV) ?_
   refine Y1 (Yv.fieldEp rfl fo_116_3 eV) ?_
   refine Y1 (Yv.loadEp rfl ag_114 (i := 1) rfl eV (fun hg => fd3)) ?_
   refine ym ?_
   refine Y1 (Yv.indexRow (j := j) rfl ss_114 (i := 3) rfl eV eV (fun hg => ⟨rfl, hjr⟩)) ?_
   refine AWL.storeEp1 (i := 3) rfl rfl rfl ag_4 rfl (E rfl rfl) (E rfl rfl) rfl rfl (by rw [List.length_map, List.length_append, List.length_replicate, List.length_drop]; omega) (nl ?_)
   refine AW.region ?_
   refine ym ?_
   refine Y1 (Yv.addN_i64 rfl eV eV (fun hg => by omega)) ?_
   refine ya ?_
   refine ⟨j + 1, by omega, by omega, (su (su (su (su (su (Sub.cons rfl (by simp) Sub.nil)))))), ?_⟩
   rw [clr_succ (show j < x.set.length by omega)]
   rfl
  try replace h7f := odf h7f
  have e9 : (goF x).nr = x.nr := rfl
  obtain rfl : j = x.nr := by omega
  refine AW.eqS (S' := ([Ent.box s 75 (psD ps ob (.v (.slice (some ⟨g, 0, none⟩) (k + 1) c))), Ent.row (some ⟨g, 0, none⟩) (k + 1) c 116 7 (pre ++ frD (callF ps.strict x) a)] ++ frE (callF ps.strict x) a) ++ [Ent.box b5 98 (insCells i), Ent.row A i.args.length c2 22 1 (((i.args.take i.args.length).map (rA x)).map zw)]) (by
   rw [callE_rows, if_pos h6t, List.drop_of_length_le (by omega), List.append_nil]
   rfl) ?_
  rw [List.take_length]
  refine AW.freeze 7 9 rfl (B rfl) rfl ?_
  refine AW.exit ?_
  refine rs (ym ?_)
  refine ym ?_
  refine ym ?_
  refine yf fo_98_1 ?_
  refine yl ag_3 6 ?_
  refine C1 rfl ce_40 (E rfl rfl) (evsC (E rfl rfl) (evsC (E rfl rfl) (evsC (E rfl rfl) (evsC (E rfl rfl) evs0)))) (S1 := [Ent.box s 75 (psD ps ob (.v (.slice (some ⟨g, 0, none⟩) (k + 1) c))), Ent.row (some ⟨g, 0, none⟩) (k + 1) c 116 7 (pre ++ frD (callF ps.strict x) a)]) (S2 := _) rfl (Dopen43 s ps ob f (i.args.map (rA x)) i.d (some ⟨g, 0, none⟩) (k + 1) c (pre ++ frD (callF ps.strict x) a) hcf.1 hpf hfo.1 hfo.2.1 hfo.2.2.1 hfo.2.2.2 hcf.2 (by omega)) ?_
  rintro t158 S158 ⟨rfl, g2, c3, a2, rfl⟩
  refine nl ?_
  refine ra ?_
  refine AW.ret (retI (.tmp rfl .nil) ?_)
  rw [hcal]
  simp only [if_neg hk24]
  rw [if_neg (by omega)]
  refine ⟨rfl, g2, c3, a2, ?_⟩
  exact call_sub
 try replace h6f := odf h6f
 refine AW.eqS (S' := ([Ent.box s 75 (psD ps ob (.v (.slice (some ⟨g, 0, none⟩) (k + 1) c))), Ent.row (some ⟨g, 0, none⟩) (k + 1) c 116 7 (pre ++ frD (callF ps.strict x) a)] ++ frE (callF ps.strict x) a) ++ [Ent.box b5 98 (insCells i), Ent.row A i.args.length c2 22 1 (((i.args.take i.args.length).map (rA x)).map zw)]) (by
  rw [callE_rows, if_neg (by rw [h6f]; decide)]
  rfl) ?_
 rw [List.take_length]
 refine AW.freeze 7 9 rfl (B rfl) rfl ?_
 refine AW.skip ?_
 refine rs (ym ?_)
 refine ym ?_
 refine ym ?_
 refine yf fo_98_1 ?_
 refine yl ag_3 6 ?_
 refine C1 rfl ce_40 (E rfl rfl) (evsC (E rfl rfl) (evsC (E rfl rfl) (evsC (E rfl rfl) (evsC (E rfl rfl) evs0)))) (S1 := [Ent.box s 75 (psD ps ob (.v (.slice (some ⟨g, 0, none⟩) (k + 1) c))), Ent.row (some ⟨g, 0, none⟩) (k + 1) c 116 7 (pre ++ frD (callF ps.strict x) a)]) (S2 := _) rfl (Dopen43 s ps ob f (i.args.map (rA x)) i.d (some ⟨g, 0, none⟩) (k + 1) c (pre ++ frD (callF ps.strict x) a) hcf.1 hpf hfo.1 hfo.2.1 hfo.2.2.1 hfo.2.2.2 hcf.2 (by omega)) ?_
 rintro t158 S158 ⟨rfl, g2, c3, a2, rfl⟩
 refine nl ?_
 refine ra ?_
 refine AW.ret (retI (.tmp rfl .nil) ?_)
 rw [hcal]
 simp only [if_neg hk24]
 rw [if_neg (by omega)]
 refine ⟨rfl, g2, c3, a2, ?_⟩
 exact call_sub

end Go.Proofs.YtpgbpdnmjeoeoaaGreat

namespace Go.Proofs.YtpgbpdnmjeoeoaaGreat
open Go Go.RowKit

theorem okS_rd2 (x : Fr) (i : Ins) : okS x.set (rd2 i) = ((!(hasF i.kind).a || x.set.getD i.a.toNat default) && (!(hasF i.kind).b || x.set.getD i.b.toNat default)) := by
 unfold rd2 rd1
 rw [okS_app]
 cases (hasF i.kind).a <;> cases (hasF i.kind).b <;> simp [okS]
theorem rd_bad {x : Fr} {i : Ins} (h : ((hasF i.kind).a = true ∧ x.set.getD i.a.toNat default = false) ∨ ((hasF i.kind).b = true ∧ x.set.getD i.b.toNat default = false)) : okS x.set (readsF i) = false := by
 rw [rd3_of, okS_app, okS_rd2]
 rcases h with ⟨h1, h2⟩ | ⟨h1, h2⟩ <;> rw [h1, h2] <;> simp
theorem rdE_ok {x : Fr} {i : Ins} (h : ((hasF i.kind).a = true → x.set.getD i.a.toNat default = true) ∧ ((hasF i.kind).b = true → x.set.getD i.b.toNat default = true)) : okS x.set (rd2 i) = true := by
 rw [okS_rd2]
 obtain ⟨h1, h2⟩ := h
 cases ha : (hasF i.kind).a <;> cases hb : (hasF i.kind).b <;> simp_all
theorem rd_arg {x : Fr} {i : Ins} {k : Nat} (hA : (hasF i.kind).args = true) (hk : k < i.args.length) (h : x.set.getD (i.args.getD k default).toNat default = false) : okS x.set (readsF i) = false := by
 rw [rd3_of, if_pos hA, okS_app]
 have h2 : okS x.set i.args = false := by
  unfold okS
  rw [List.all_eq_false]
  exact ⟨_, getD_mem hk, by rw [h]; decide⟩
 rw [h2, Bool.and_false]
theorem rd_all {x : Fr} {i : Ins} {k : Nat} (h2 : okS x.set (rd2 i) = true) (hk : k ≤ i.args.length) (hka : (hasF i.kind).args = true → okS x.set (i.args.take k) = true) (h : (k : Int) < (i.args.length : Int) → (hasF i.kind).args = false) : okS x.set (readsF i) = true := by
 rw [rd3_of, okS_app, h2, Bool.true_and]
 cases hA : (hasF i.kind).args with
 | false => rfl
 | true =>
  have : ¬ (k : Int) < (i.args.length : Int) := fun q => by rw [h q] at hA; cases hA
  obtain rfl : k = i.args.length := by omega
  have h3 := hka hA
  rw [List.take_length] at h3
  rw [if_pos rfl]; exact h3
set_option maxHeartbeats 16000000 in
theorem DstepV_ (s g n c : Nat) (ps : PS) (ob : Bool) (pre : List T) (x : Fr) (a : FA) (i : Ins) (hx : FrOk x) (hk : valK i.kind ∨ i.kind = 32) (ha : (hasF i.kind).a = true → 0 ≤ i.a ∧ i.a < (x.nr : Int)) (hb : (hasF i.kind).b = true → 0 ≤ i.b ∧ i.b < (x.nr : Int)) (hs : i.kind = 31 ∨ i.kind = 32 → 0 ≤ i.imm ∧ i.imm < (x.ns : Int)) (hre : i.kind = 16 → 1 ≤ i.real ∧ i.real ≤ 8) (hdd : (hasF i.kind).d = true → 0 ≤ i.d ∧ i.d < (x.nr : Int)) (hg : (hasF i.kind).args = true → ∀ r ∈ i.args, 0 ≤ r ∧ r < (x.nr : Int)) (hgl : i.args.length ≤ 1048576) (hat : 0 ≤ x.at_ ∧ x.at_ ≤ 4611686018427387904) :
    ACalls Tryz.prog 47 [pv s, .ep (.slice (some ⟨g, 0, none⟩) n c) pre.length, .agg (insCells i)] ([Ent.box s 75 (psD ps ob (.v (.slice (some ⟨g, 0, none⟩) n c))), Ent.row (some ⟨g, 0, none⟩) n c 116 7 (pre ++ frD x a)] ++ frE x a) (fun t S => t = bv (stepA realF ps.heap x i).isSome ∧ ([Ent.box s 75 (psD ps ob (.v (.slice (some ⟨g, 0, none⟩) n c))), Ent.row (some ⟨g, 0, none⟩) n c 116 7 (pre ++ frD ((stepA realF ps.heap x i).getD x) a)] ++ frE ((stepA realF ps.heap x i).getD x) a).Sublist S) := by
 have hl1 := hx.r
 have hl2 := hx.s
 have hl3 := hx.t
 have hl4 := hx.h
 obtain ⟨hat0, hat1⟩ := hat
 have hkv := hk
 unfold valK at hk
 refine ACalls.intro Tryz.func47 rfl Tryz.ntmps47 nB rfl fun X w0 => ?_
 refine rs ?_
 refine AWL.boxOp rfl rfl (B rfl) rfl (E rfl rfl) rfl (fun b5 => ?_)
 refine ya ?_
 refine rs (yf fo_98_0 ?_)
 refine yl ag_3 6 ?_
 refine AWL.callT rfl rfl (B rfl) rfl ce_65 (E rfl rfl) (evsC (E rfl rfl) evs0) (Of36 i.kind) ?_
 rintro t16 S16 rfl
 refine ym ?_
 refine Y1 (Yv.extract rfl eV rfl) ?_
 refine Y1 (Yv.extract rfl eV rfl) ?_
 refine AWL.allocOp rfl rfl (B rfl) rfl zc_137 (fun b7 => ?_)
 refine AWL.storeBox (i := 7) rfl rfl rfl ag_137 rfl (E rfl rfl) (E rfl rfl) rfl rfl nB ?_
 refine ya ?_
 refine AW.seq ?_
 refine AW.rseqQ rfl (by kernel_rfl) ?_
 refine qf fo_137_1 ?_
 refine ql ag_4 7 ?_
 refine qm ?_
 refine kT (Yv.move rfl eV) ?_
 refine kT (Yv.nilChkEp rfl (Eg rfl rfl id)) ?_
 refine kT (Yv.fieldEp rfl fo_116_3 (Eg rfl rfl id)) ?_
 refine kT (Yv.loadEp rfl ag_114 (i := 1) rfl (Eg rfl rfl id) (fun hg => fd3)) ?_
 refine kT (Yv.fieldBox rfl fo_98_2 eV) ?_
 refine kT (Yv.loadBox rfl ag_3 (i := 6) rfl (Eg rfl rfl id) rfl) ?_
 refine kT (Yv.indexRow (j := i.a.toNat) rfl ss_114 (i := 3) rfl (Eg rfl rfl id) (Eg rfl rfl id) (fun hg => ⟨(Int.toNat_of_nonneg (ha (by simpa using hg)).1).symm, by have h8 := ha (by simpa using hg); omega⟩)) ?_
 refine kT (Yv.loadEp rfl ag_4 (i := 3) rfl (Eg rfl rfl id) (fun hg => bool_at (by have h9 := ha (by simpa using hg); omega))) ?_
 refine kT (Yv.not rfl (Eg rfl rfl id)) ?_
 refine Q1 (Yv.pickAnd rfl eV (Eg rfl rfl id)) ?_
 refine qm ?_
 refine kF (Yv.fieldBox rfl fo_137_2 eV) ?_
 refine kF (Yv.loadBox rfl ag_4 (i := 7) rfl (Eg rfl rfl id) rfl) ?_
 refine kF (Yv.move rfl (Eg rfl rfl id)) ?_
 refine kT (Yv.move rfl eV) ?_
 refine kT (Yv.nilChkEp rfl (Eg rfl rfl id)) ?_
 refine kT (Yv.fieldEp rfl fo_116_3 (Eg rfl rfl id)) ?_
 refine kT (Yv.loadEp rfl ag_114 (i := 1) rfl (Eg rfl rfl id) (fun hg => fd3)) ?_
 refine kT (Yv.fieldBox rfl fo_98_3 eV) ?_
 refine kT (Yv.loadBox rfl ag_3 (i := 6) rfl (Eg rfl rfl id) rfl) ?_
 refine kT (Yv.indexRow (j := i.b.toNat) rfl ss_114 (i := 3) rfl (Eg rfl rfl id) (Eg rfl rfl id) (fun hg => ⟨(Int.toNat_of_nonneg (hb (ar hg)).1).symm, by have h8 := hb (ar hg); omega⟩)) ?_
 refine kT (Yv.loadEp rfl ag_4 (i := 3) rfl (Eg rfl rfl id) (fun hg => bool_at (by have h9 := hb (ar hg); omega))) ?_
 refine kT (Yv.not rfl (Eg rfl rfl id)) ?_
 refine kF (Yv.pickAnd rfl (Eg rfl rfl id) (Eg rfl rfl id)) ?_
 refine Q1 (Yv.pickOr (t := .const (.bool true)) rfl eV (Eg rfl rfl id)) ?_
 refine AWQ.nil ?_
 refine AW.cond rfl (fun h0t => ?_) (fun h0f => ?_)
 ·try replace h0t := odt h0t
  have hbd := rd_bad (x := x) (i := i) (by simpa using h0t)
  refine ra ?_
  refine AW.ret (retI (.tmp rfl .nil) ?_)
  rw [stepA, if_pos hbd]
  exact ⟨rfl, List.sublist_append_left _ _⟩
 try replace h0f := odf h0f
 have hr2 := rdE_ok (x := x) (i := i) (by simpa using h0f)
 refine AW.skip ?_
 refine AW.seq ?_
 refine ra ?_
 refine AW.block ?_
 refine AW.loop (fun (k : Nat) => [(0, true, pv s), (1, true, .ep (.slice (some ⟨g, 0, none⟩) n c) pre.length), (5, true, pv b5), (7, true, pv b7), (9, true, .v (.int .i64 (k : Int)))]) (fun (k : Nat) => (([Ent.box s 75 (psD ps ob (.v (.slice (some ⟨g, 0, none⟩) n c))), Ent.row (some ⟨g, 0, none⟩) n c 116 7 (pre ++ frD x a)] ++ frE x a) ++ [Ent.box b5 98 (insCells i), Ent.box b7 137 (hasCells (hasF i.kind))])) (fun (k : Nat) => k ≤ i.args.length ∧ ((hasF i.kind).args = true → okS x.set (i.args.take k) = true)) (fun (k : Nat) => i.args.length - k) 0 ?_ ?_ ?_ ?_
 ·exact ⟨Nat.zero_le _, fun _ => rfl⟩
 ·exact (su (su (su (su (su sn)))))
 ·rfl
 intro k ⟨hk0, hka⟩
 refine AW.seq ?_
 refine rs (ym ?_)
 refine yf fo_98_10 ?_
 refine yl ag_35 6 ?_
 refine Y1 (Yv.lenSl rfl so_35 (B rfl) eV len_args) ?_
 refine Y1 (Yv.lss rfl eV eV) ?_
 refine ym ?_
 refine gT (Yv.fieldBox rfl fo_137_3 eV) ?_
 refine gT (Yv.loadBox rfl ag_4 (i := 7) rfl (Eg rfl rfl id) rfl) ?_
 refine Y1 (Yv.pickAnd rfl eV (Eg rfl rfl id)) (nl ?_)
 refine AW.cond rfl (fun h1t => ?_) (fun h1f => ?_)
 ·try replace h1t := odt h1t
  have hk1 : k < i.args.length ∧ (hasF i.kind).args = true := by
   have h : (k : Int) < (i.args.length : Int) ∧ (hasF i.kind).args = true := by simpa using h1t
   exact ⟨by omega, h.2⟩
  have hkr := hg hk1.2 _ (getD_mem (l := i.args) hk1.1)
  refine AW.skip ?_
  refine AW.seq ?_
  refine AW.block ?_
  refine AW.rseqQ rfl (by kernel_rfl) ?_
  refine qm ?_
  refine Q1 (Yv.nilChkEp rfl eV) ?_
  refine Q1 (Yv.fieldEp rfl fo_116_3 eV) ?_
  refine Q1 (Yv.loadEp rfl ag_114 (i := 1) rfl eV (fun hg => fd3)) ?_
  refine qf fo_98_10 ?_
  refine ql ag_35 6 ?_
  refine qm ?_
  refine Q1 (Yv.indexSl rfl ss_35 (B rfl) eV eV (fun hg => ⟨rfl, (by first | omega | (simp only [len_code, len_funs, len_args, len_data, len_zw]; omega))⟩)) ?_
  refine Q1 (Yv.loadRp rfl ag_3 eV (fun hg => arg_at (by omega))) ?_
  refine Q1 (Yv.indexRow (j := (i.args.getD k default).toNat) rfl ss_114 (i := 3) rfl eV eV (fun hg => ⟨(Int.toNat_of_nonneg hkr.1).symm, by omega⟩)) ?_
  refine Q1 (Yv.loadEp rfl ag_4 (i := 3) rfl eV (fun hg => bool_at (by omega))) ?_
  refine Q1 (Yv.not rfl eV) ?_
  refine AWQ.nil ?_
  refine AW.cond rfl (fun h2t => ?_) (fun h2f => ?_)
  ·try replace h2t := odt h2t
   have hbd := rd_arg (x := x) (i := i) hk1.2 hk1.1 (by simpa using h2t)
   refine ra ?_
   refine AW.ret (retI (.tmp rfl .nil) ?_)
   rw [stepA, if_pos hbd]
   exact ⟨rfl, List.sublist_append_left _ _⟩
  try replace h2f := odf h2f
  refine AW.skip ?_
  refine AW.region ?_
  refine ym ?_
  refine Y1 (Yv.addN_i64 rfl eV eV (fun hg => by omega)) ?_
  refine ya ?_
  refine ⟨k + 1, ⟨by omega, fun h => ?_⟩, by omega, (su (su (su (su (Sub.cons rfl (by simp) Sub.nil))))), rfl⟩
  rw [take_gd hk1.1, okS_app, hka h, okS_one, Bool.true_and]
  simpa using h2f
 try replace h1f := odf h1f
 have hok := rd_all hr2 hk0 hka (by simpa using h1f)
 refine AW.exit ?_
 refine AW.seq ?_
 refine rs (yf fo_98_0 ?_)
 refine yl ag_3 6 (nl ?_)
 refine AW.block ?_
 refine rs (Y1 (Yv.eql rfl eV eV) ?_)
 refine ya ?_
 refine AW.cond rfl (fun h3t => ?_) (fun h3f => ?_)
 ·try replace h3t := odt h3t
  exfalso; omega
 try replace h3f := odf h3f
 refine rs (Y1 (Yv.eql rfl eV eV) ?_)
 refine ya ?_
 refine AW.cond rfl (fun h4t => ?_) (fun h4f => ?_)
 ·try replace h4t := odt h4t
  exfalso; omega
 try replace h4f := odf h4f
 refine rs (Y1 (Yv.eql rfl eV eV) ?_)
 refine ya ?_
 refine AW.cond rfl (fun h5t => ?_) (fun h5f => ?_)
 ·try replace h5t := odt h5t
  exfalso; omega
 try replace h5f := odf h5f
 refine rs (Y1 (Yv.eql rfl eV eV) ?_)
 refine ya ?_
 refine AW.cond rfl (fun h6t => ?_) (fun h6f => ?_)
 ·try replace h6t := odt h6t
  obtain ⟨hs0, hs1⟩ := hs (.inr h6t)
  obtain ⟨ha0, ha1⟩ := ha (by rw [h6t]; rfl)
  refine AW.rseqP rfl ?_
  refine AWP.phase [true, true, true, true, true, true, true, true, true, true, true, true, true, true, true] 1 rfl (by kernel_rfl) (by kernel_rfl) ?_
  refine qm ?_
  refine Q1 (Yv.nilChkEp rfl eV) ?_
  refine Q1 (Yv.fieldEp rfl fo_116_4 eV) ?_
  refine Q1 (Yv.loadEp rfl ag_32 (i := 1) rfl eV (fun hg => fd4)) ?_
  refine qf fo_98_9 ?_
  refine ql ag_2 6 ?_
  refine qm ?_
  refine Q1 (Yv.nilChkEp rfl eV) ?_
  refine Q1 (Yv.fieldEp rfl fo_116_2 eV) ?_
  refine Q1 (Yv.loadEp rfl ag_32 (i := 1) rfl eV (fun hg => fd2)) ?_
  refine qf fo_98_2 ?_
  refine ql ag_3 6 ?_
  refine Q1 (Yv.indexRow (j := i.a.toNat) rfl ss_32 (i := 2) rfl eV eV (fun hg => ⟨(Int.toNat_of_nonneg (by omega)).symm, by omega⟩)) ?_
  refine Q1 (Yv.loadEp rfl ag_22 (i := 2) rfl eV (fun hg => word_at (by omega))) ?_
  refine Q1 (Yv.indexRow (j := i.imm.toNat) rfl ss_32 (i := 4) rfl eV eV (fun hg => ⟨(Int.toNat_of_nonneg (by omega)).symm, by omega⟩)) ?_
  refine AWQ.nil ?_
  refine p1 15 ?_
  refine AWL.storeEp1 (i := 4) rfl rfl rfl ag_22 rfl (E rfl rfl) (E rfl rfl) rfl rfl (by rw [List.length_map]; omega) (nl ?_)
  refine AWP.done (by kernel_rfl) ?_
  refine AW.rseqP rfl ?_
  refine AWP.phase [true, true, true, true, true, true, true] 1 rfl (by kernel_rfl) (by kernel_rfl) ?_
  refine qm ?_
  refine Q1 (Yv.nilChkEp rfl eV) ?_
  refine Q1 (Yv.fieldEp rfl fo_116_5 eV) ?_
  refine Q1 (Yv.loadEp rfl ag_114 (i := 1) rfl eV (fun hg => fd5)) ?_
  refine qf fo_98_9 ?_
  refine ql ag_2 6 ?_
  refine Q1 (Yv.indexRow (j := i.imm.toNat) rfl ss_114 (i := 5) rfl eV eV (fun hg => ⟨(Int.toNat_of_nonneg (by omega)).symm, by omega⟩)) ?_
  refine AWQ.nil ?_
  refine p1 7 ?_
  refine AWL.storeEp1 (i := 5) rfl rfl rfl ag_4 rfl (E rfl rfl) (E rfl rfl) rfl rfl (by rw [List.length_map]; omega) (nl ?_)
  refine AWP.done (by kernel_rfl) ?_
  refine rs (ym ?_)
  refine Y1 (Yv.nilChkEp rfl eV) ?_
  refine Y1 (Yv.fieldEp rfl fo_116_1 eV) ?_
  refine Y1 (Yv.loadEp rfl ag_3 (i := 1) rfl eV (fun hg => fd1)) ?_
  refine Y1 (Yv.addN_i64 rfl eV eV (fun hg => by omega)) ?_
  refine Y1 (Yv.nilChkEp rfl eV) ?_
  refine Y1 (Yv.fieldEp rfl fo_116_1 eV) ?_
  refine AWL.storeEp1 (i := 1) rfl rfl rfl ag_3 rfl (E rfl rfl) (E rfl rfl) rfl rfl (by rw [fd_len]; omega) (nl ?_)
  refine ra ?_
  refine AW.ret (retI (.tmp rfl .nil) ?_)
  rw [stepA, if_neg (by rw [hok]; decide), if_pos h6t]
  refine ⟨rfl, ?_⟩
  refine (List.sublist_append_left ([Ent.box s 75 (psD ps ob (.v (.slice (some ⟨g, 0, none⟩) n c))), Ent.row (some ⟨g, 0, none⟩) n c 116 7 (pre ++ frD (goF (putF x i)) a)] ++ frE (goF (putF x i)) a) [Ent.box b5 98 (insCells i), Ent.box b7 137 (hasCells (hasF i.kind))]).trans ?_
  rw [show frE (goF (putF x i)) a = frE (putF x i) a from rfl, putE_rows, show frD (goF (putF x i)) a = frD (goF x) a from rfl, show goF x = { x with at_ := x.at_ + 1 } from rfl, ← fd_jump]
  exact List.Sublist.refl _
 try replace h6f := odf h6f
 have hvk : valK i.kind := hkv.resolve_right h6f
 refine rs (Y1 (Yv.eql rfl eV eV) ?_)
 refine ya ?_
 refine AW.cond rfl (fun h7t => ?_) (fun h7f => ?_)
 ·try replace h7t := odt h7t
  exfalso; omega
 try replace h7f := odf h7f
 refine rs (Y1 (Yv.eql rfl eV eV) ?_)
 refine ya ?_
 refine AW.cond rfl (fun h8t => ?_) (fun h8f => ?_)
 ·try replace h8t := odt h8t
  exfalso; omega
 try replace h8f := odf h8f
 refine AW.seq ?_
 refine rs (Y1 (Yv.eql rfl eV eV) ?_)
 refine ya ?_
 refine AW.cond rfl (fun h9t => ?_) (fun h9f => ?_)
 ·try replace h9t := odt h9t
  exfalso; omega
 try replace h9f := odf h9f
 refine rs (Y1 (Yv.eql rfl eV eV) ?_)
 refine ya ?_
 refine AW.cond rfl (fun h10t => ?_) (fun h10f => ?_)
 ·try replace h10t := odt h10t
  exfalso; omega
 try replace h10f := odf h10f
 refine rs (Y1 (Yv.eql rfl eV eV) ?_)
 refine ya ?_
 refine AW.cond rfl (fun h11t => ?_) (fun h11f => ?_)
 ·try replace h11t := odt h11t
  exfalso; omega
 try replace h11f := odf h11f
 refine AW.region ?_
 refine Y1 (Yv.eql rfl eV eV) ?_
 refine ya ?_
 refine AW.cond rfl (fun h12t => ?_) (fun h12f => ?_)
 ·try replace h12t := odt h12t
  exfalso; omega
 try replace h12f := odf h12f
 refine AW.skip ?_
 refine rs (ym ?_)
 refine ym ?_
 refine Y1 (Yv.loadBoxA rfl ag_98 (i := 6) rfl eV rfl rfl) ?_
 refine C1 rfl ce_71 (E rfl rfl) (evsC (E rfl rfl) (evsC (E rfl rfl) (evsC (E rfl rfl) evs0))) (S1 := ([Ent.box s 75 (psD ps ob (.v (.slice (some ⟨g, 0, none⟩) n c))), Ent.row (some ⟨g, 0, none⟩) n c 116 7 (pre ++ frD x a)] ++ frE x a)) (S2 := _) rfl (Dvalue72 s g n c ps ob pre x a i hx hvk ha hb (fun h => hs (.inl h)) hre) ?_
 rintro t230 S230 ⟨rfl, rfl⟩
 refine ym ?_
 refine Y1 (Yv.extract rfl eV rfl) ?_
 refine Y1 (Yv.extract rfl eV rfl) ?_
 refine Y1 (Yv.assign rfl eV) ?_
 refine ya ?_
 refine AW.seq ?_
 refine rs (ym ?_)
 refine Y1 (Yv.not rfl eV) (nl ?_)
 refine AW.cond rfl (fun h13t => ?_) (fun h13f => ?_)
 ·try replace h13t := odt h13t
  refine ra ?_
  refine AW.ret (retI (.tmp rfl .nil) ?_)
  rw [stepA, if_neg (by rw [hok]; decide), if_neg h6f, if_neg (by simpa using h13t)]
  exact ⟨rfl, List.sublist_append_left _ _⟩
 try replace h13f := odf h13f
 refine AW.skip ?_
 obtain ⟨hd0, hd1⟩ := hdd (has_d hvk)
 refine AW.rseqP rfl ?_
 refine AWP.phase [true, true, true, true, true, true, true, true] 1 rfl (by kernel_rfl) (by kernel_rfl) ?_
 refine qm ?_
 refine Q1 (Yv.nilChkEp rfl eV) ?_
 refine Q1 (Yv.fieldEp rfl fo_116_2 eV) ?_
 refine Q1 (Yv.loadEp rfl ag_32 (i := 1) rfl eV (fun hg => fd2)) ?_
 refine qf fo_98_1 ?_
 refine ql ag_3 6 ?_
 refine qm ?_
 refine Q1 (Yv.indexRow (j := i.d.toNat) rfl ss_32 (i := 2) rfl eV eV (fun hg => ⟨(Int.toNat_of_nonneg (by omega)).symm, by omega⟩)) ?_
 refine AWQ.nil ?_
 refine p1 8 ?_
 refine AWL.storeEp1 (i := 2) rfl rfl rfl ag_22 rfl (E rfl rfl) (E rfl rfl) rfl rfl (by rw [List.length_map]; omega) (nl ?_)
 refine AWP.done (by kernel_rfl) ?_
 refine AW.rseqP rfl ?_
 refine AWP.phase [true, true, true, true, true, true, true] 1 rfl (by kernel_rfl) (by kernel_rfl) ?_
 refine qm ?_
 refine Q1 (Yv.nilChkEp rfl eV) ?_
 refine Q1 (Yv.fieldEp rfl fo_116_3 eV) ?_
 refine Q1 (Yv.loadEp rfl ag_114 (i := 1) rfl eV (fun hg => fd3)) ?_
 refine qf fo_98_1 ?_
 refine ql ag_3 6 ?_
 refine Q1 (Yv.indexRow (j := i.d.toNat) rfl ss_114 (i := 3) rfl eV eV (fun hg => ⟨(Int.toNat_of_nonneg (by omega)).symm, by omega⟩)) ?_
 refine AWQ.nil ?_
 refine p1 7 ?_
 refine AWL.storeEp1 (i := 3) rfl rfl rfl ag_4 rfl (E rfl rfl) (E rfl rfl) rfl rfl (by rw [List.length_map]; omega) (nl ?_)
 refine AWP.done (by kernel_rfl) ?_
 refine rs (ym ?_)
 refine Y1 (Yv.nilChkEp rfl eV) ?_
 refine Y1 (Yv.fieldEp rfl fo_116_1 eV) ?_
 refine Y1 (Yv.loadEp rfl ag_3 (i := 1) rfl eV (fun hg => fd1)) ?_
 refine Y1 (Yv.addN_i64 rfl eV eV (fun hg => by omega)) ?_
 refine Y1 (Yv.nilChkEp rfl eV) ?_
 refine Y1 (Yv.fieldEp rfl fo_116_1 eV) ?_
 refine AWL.storeEp1 (i := 1) rfl rfl rfl ag_3 rfl (E rfl rfl) (E rfl rfl) rfl rfl (by rw [fd_len]; omega) (nl ?_)
 refine ra ?_
 refine AW.ret (retI (.tmp rfl .nil) ?_)
 rw [stepA, if_neg (by rw [hok]; decide), if_neg h6f, if_pos (by simpa using h13f)]
 refine ⟨rfl, ?_⟩
 refine (List.sublist_append_left ([Ent.box s 75 (psD ps ob (.v (.slice (some ⟨g, 0, none⟩) n c))), Ent.row (some ⟨g, 0, none⟩) n c 116 7 (pre ++ frD (goF (setD x i.d (valueF realF ps.heap x i).1)) a)] ++ frE (goF (setD x i.d (valueF realF ps.heap x i).1)) a) [Ent.box b5 98 (insCells i), Ent.box b7 137 (hasCells (hasF i.kind))]).trans ?_
 rw [show frE (goF (setD x i.d (valueF realF ps.heap x i).1)) a = frE (setD x i.d (valueF realF ps.heap x i).1) a from rfl, setE_rows, show frD (goF (setD x i.d (valueF realF ps.heap x i).1)) a = frD (goF x) a from rfl, show goF x = { x with at_ := x.at_ + 1 } from rfl, ← fd_jump]
 exact List.Sublist.refl _

end Go.Proofs.YtpgbpdnmjeoeoaaGreat

namespace Go.Proofs.YtpgbpdnmjeoeoaaGreat
open Go Go.RowKit

set_option maxHeartbeats 16000000 in
theorem DstepJ_ (s g n c gl nf lc : Nat) (ps : PS) (ob : Bool) (pre : List T) (x : Fr) (a : FA) (i : Ins) (bs : List Nat) (m : LM) (hx : FrOk x) (hlab : ps.lab = .v (.slice (some ⟨gl, 0, none⟩) nf lc)) (hnf : bs.length = nf) (hf0 : 0 ≤ x.f) (hf1 : x.f.toNat < nf) (hk : i.kind = 20 ∨ i.kind = 21) (ha : (hasF i.kind).a = true → 0 ≤ i.a ∧ i.a < (x.nr : Int)) (hb : (hasF i.kind).b = true → 0 ≤ i.b ∧ i.b < (x.nr : Int)) (hg : (hasF i.kind).args = true → ∀ r ∈ i.args, 0 ≤ r ∧ r < (x.nr : Int)) (hgl : i.args.length ≤ 1048576) (hat : 0 ≤ x.at_ ∧ x.at_ ≤ 4611686018427387904) :
    ACalls Tryz.prog 47 [pv s, .ep (.slice (some ⟨g, 0, none⟩) n c) pre.length, .agg (insCells i)] (([Ent.box s 75 (psD ps ob (.v (.slice (some ⟨g, 0, none⟩) n c))), Ent.row (some ⟨g, 0, none⟩) n c 116 7 (pre ++ frD x a)] ++ frE x a) ++ [Ent.row (some ⟨gl, 0, none⟩) nf lc 99 1 (bs.map mapT), Ent.map (bs.getD x.f.toNat 0) (lmT m)]) (fun t S => t = bv (okS x.set (readsF i)) ∧ (([Ent.box s 75 (psD ps ob (.v (.slice (some ⟨g, 0, none⟩) n c))), Ent.row (some ⟨g, 0, none⟩) n c 116 7 (pre ++ frD (if okS x.set (readsF i) = true then { x with at_ := if i.kind = 20 ∨ holdsF i.cond (rA x i.a) (rA x i.b) = true then getL i.l m else x.at_ + 1 } else x) a)] ++ frE (if okS x.set (readsF i) = true then { x with at_ := if i.kind = 20 ∨ holdsF i.cond (rA x i.a) (rA x i.b) = true then getL i.l m else x.at_ + 1 } else x) a) ++ [Ent.row (some ⟨gl, 0, none⟩) nf lc 99 1 (bs.map mapT), Ent.map (bs.getD x.f.toNat 0) (lmT m)]).Sublist S) := by
 have hl1 := hx.r
 have hl3 := hx.t
 obtain ⟨hat0, hat1⟩ := hat
 refine ACalls.intro Tryz.func47 rfl Tryz.ntmps47 nB rfl fun X w0 => ?_
 refine rs ?_
 refine AWL.boxOp rfl rfl (B rfl) rfl (E rfl rfl) rfl (fun b5 => ?_)
 refine ya ?_
 refine rs (yf fo_98_0 ?_)
 refine yl ag_3 8 ?_
 refine AWL.callT rfl rfl (B rfl) rfl ce_65 (E rfl rfl) (evsC (E rfl rfl) evs0) (Of36 i.kind) ?_
 rintro t16 S16 rfl
 refine ym ?_
 refine Y1 (Yv.extract rfl eV rfl) ?_
 refine Y1 (Yv.extract rfl eV rfl) ?_
 refine AWL.allocOp rfl rfl (B rfl) rfl zc_137 (fun b7 => ?_)
 refine AWL.storeBox (i := 9) rfl rfl rfl ag_137 rfl (E rfl rfl) (E rfl rfl) rfl rfl nB ?_
 refine ya ?_
 refine AW.seq ?_
 refine AW.rseqQ rfl (by kernel_rfl) ?_
 refine qf fo_137_1 ?_
 refine ql ag_4 9 ?_
 refine qm ?_
 refine kT (Yv.move rfl eV) ?_
 refine kT (Yv.nilChkEp rfl (Eg rfl rfl id)) ?_
 refine kT (Yv.fieldEp rfl fo_116_3 (Eg rfl rfl id)) ?_
 refine kT (Yv.loadEp rfl ag_114 (i := 1) rfl (Eg rfl rfl id) (fun hg => fd3)) ?_
 refine kT (Yv.fieldBox rfl fo_98_2 eV) ?_
 refine kT (Yv.loadBox rfl ag_3 (i := 8) rfl (Eg rfl rfl id) rfl) ?_
 refine kT (Yv.indexRow (j := i.a.toNat) rfl ss_114 (i := 3) rfl (Eg rfl rfl id) (Eg rfl rfl id) (fun hg => ⟨(Int.toNat_of_nonneg (ha (by simpa using hg)).1).symm, by have h8 := ha (by simpa using hg); omega⟩)) ?_
 refine kT (Yv.loadEp rfl ag_4 (i := 3) rfl (Eg rfl rfl id) (fun hg => bool_at (by have h9 := ha (by simpa using hg); omega))) ?_
 refine kT (Yv.not rfl (Eg rfl rfl id)) ?_
 refine Q1 (Yv.pickAnd rfl eV (Eg rfl rfl id)) ?_
 refine qm ?_
 refine kF (Yv.fieldBox rfl fo_137_2 eV) ?_
 refine kF (Yv.loadBox rfl ag_4 (i := 9) rfl (Eg rfl rfl id) rfl) ?_
 refine kF (Yv.move rfl (Eg rfl rfl id)) ?_
 refine kT (Yv.move rfl eV) ?_
 refine kT (Yv.nilChkEp rfl (Eg rfl rfl id)) ?_
 refine kT (Yv.fieldEp rfl fo_116_3 (Eg rfl rfl id)) ?_
 refine kT (Yv.loadEp rfl ag_114 (i := 1) rfl (Eg rfl rfl id) (fun hg => fd3)) ?_
 refine kT (Yv.fieldBox rfl fo_98_3 eV) ?_
 refine kT (Yv.loadBox rfl ag_3 (i := 8) rfl (Eg rfl rfl id) rfl) ?_
 refine kT (Yv.indexRow (j := i.b.toNat) rfl ss_114 (i := 3) rfl (Eg rfl rfl id) (Eg rfl rfl id) (fun hg => ⟨(Int.toNat_of_nonneg (hb (ar hg)).1).symm, by have h8 := hb (ar hg); omega⟩)) ?_
 refine kT (Yv.loadEp rfl ag_4 (i := 3) rfl (Eg rfl rfl id) (fun hg => bool_at (by have h9 := hb (ar hg); omega))) ?_
 refine kT (Yv.not rfl (Eg rfl rfl id)) ?_
 refine kF (Yv.pickAnd rfl (Eg rfl rfl id) (Eg rfl rfl id)) ?_
 refine Q1 (Yv.pickOr (t := .const (.bool true)) rfl eV (Eg rfl rfl id)) ?_
 refine AWQ.nil ?_
 refine AW.cond rfl (fun h0t => ?_) (fun h0f => ?_)
 ·try replace h0t := odt h0t
  have hbd := rd_bad (x := x) (i := i) (by simpa using h0t)
  refine ra ?_
  refine AW.ret (retI (.tmp rfl .nil) ?_)
  rw [hbd]
  exact ⟨rfl, List.sublist_append_left _ _⟩
 try replace h0f := odf h0f
 have hr2 := rdE_ok (x := x) (i := i) (by simpa using h0f)
 refine AW.skip ?_
 refine AW.seq ?_
 refine ra ?_
 refine AW.block ?_
 refine AW.loop (fun (k : Nat) => [(0, true, pv s), (1, true, .ep (.slice (some ⟨g, 0, none⟩) n c) pre.length), (5, true, pv b5), (7, true, pv b7), (9, true, .v (.int .i64 (k : Int)))]) (fun (k : Nat) => ((([Ent.box s 75 (psD ps ob (.v (.slice (some ⟨g, 0, none⟩) n c))), Ent.row (some ⟨g, 0, none⟩) n c 116 7 (pre ++ frD x a)] ++ frE x a) ++ [Ent.row (some ⟨gl, 0, none⟩) nf lc 99 1 (bs.map mapT), Ent.map (bs.getD x.f.toNat 0) (lmT m)]) ++ [Ent.box b5 98 (insCells i), Ent.box b7 137 (hasCells (hasF i.kind))])) (fun (k : Nat) => k ≤ i.args.length ∧ ((hasF i.kind).args = true → okS x.set (i.args.take k) = true)) (fun (k : Nat) => i.args.length - k) 0 ?_ ?_ ?_ ?_
 ·exact ⟨Nat.zero_le _, fun _ => rfl⟩
 ·exact (su (su (su (su (su sn)))))
 ·rfl
 intro k ⟨hk0, hka⟩
 refine AW.seq ?_
 refine rs (ym ?_)
 refine yf fo_98_10 ?_
 refine yl ag_35 8 ?_
 refine Y1 (Yv.lenSl rfl so_35 (B rfl) eV len_args) ?_
 refine Y1 (Yv.lss rfl eV eV) ?_
 refine ym ?_
 refine gT (Yv.fieldBox rfl fo_137_3 eV) ?_
 refine gT (Yv.loadBox rfl ag_4 (i := 9) rfl (Eg rfl rfl id) rfl) ?_
 refine Y1 (Yv.pickAnd rfl eV (Eg rfl rfl id)) (nl ?_)
 refine AW.cond rfl (fun h1t => ?_) (fun h1f => ?_)
 ·try replace h1t := odt h1t
  have hk1 : k < i.args.length ∧ (hasF i.kind).args = true := by
   have h : (k : Int) < (i.args.length : Int) ∧ (hasF i.kind).args = true := by simpa using h1t
   exact ⟨by omega, h.2⟩
  have hkr := hg hk1.2 _ (getD_mem (l := i.args) hk1.1)
  refine AW.skip ?_
  refine AW.seq ?_
  refine AW.block ?_
  refine AW.rseqQ rfl (by kernel_rfl) ?_
  refine qm ?_
  refine Q1 (Yv.nilChkEp rfl eV) ?_
  refine Q1 (Yv.fieldEp rfl fo_116_3 eV) ?_
  refine Q1 (Yv.loadEp rfl ag_114 (i := 1) rfl eV (fun hg => fd3)) ?_
  refine qf fo_98_10 ?_
  refine ql ag_35 8 ?_
  refine qm ?_
  refine Q1 (Yv.indexSl rfl ss_35 (B rfl) eV eV (fun hg => ⟨rfl, (by first | omega | (simp only [len_code, len_funs, len_args, len_data, len_zw]; omega))⟩)) ?_
  refine Q1 (Yv.loadRp rfl ag_3 eV (fun hg => arg_at (by omega))) ?_
  refine Q1 (Yv.indexRow (j := (i.args.getD k default).toNat) rfl ss_114 (i := 3) rfl eV eV (fun hg => ⟨(Int.toNat_of_nonneg hkr.1).symm, by omega⟩)) ?_
  refine Q1 (Yv.loadEp rfl ag_4 (i := 3) rfl eV (fun hg => bool_at (by omega))) ?_
  refine Q1 (Yv.not rfl eV) ?_
  refine AWQ.nil ?_
  refine AW.cond rfl (fun h2t => ?_) (fun h2f => ?_)
  ·try replace h2t := odt h2t
   have hbd := rd_arg (x := x) (i := i) hk1.2 hk1.1 (by simpa using h2t)
   refine ra ?_
   refine AW.ret (retI (.tmp rfl .nil) ?_)
   rw [hbd]
   exact ⟨rfl, List.sublist_append_left _ _⟩
  try replace h2f := odf h2f
  refine AW.skip ?_
  refine AW.region ?_
  refine ym ?_
  refine Y1 (Yv.addN_i64 rfl eV eV (fun hg => by omega)) ?_
  refine ya ?_
  refine ⟨k + 1, ⟨by omega, fun h => ?_⟩, by omega, (su (su (su (su (Sub.cons rfl (by simp) Sub.nil))))), rfl⟩
  rw [take_gd hk1.1, okS_app, hka h, okS_one, Bool.true_and]
  simpa using h2f
 try replace h1f := odf h1f
 have hok := rd_all hr2 hk0 hka (by simpa using h1f)
 refine AW.exit ?_
 refine AW.seq ?_
 refine rs (yf fo_98_0 ?_)
 refine yl ag_3 8 (nl ?_)
 refine AW.block ?_
 refine rs (Y1 (Yv.eql rfl eV eV) ?_)
 refine ya ?_
 refine AW.cond rfl (fun h3t => ?_) (fun h3f => ?_)
 ·try replace h3t := odt h3t
  refine AW.rseqP rfl ?_
  refine AWP.phase [true, true, true, true, true, true, true, true, true, true, true, true, true, true, true, true] 1 rfl (by kernel_rfl) (by kernel_rfl) ?_
  refine qm ?_
  refine qm ?_
  refine Q1 (Yv.nilChk rfl eV) ?_
  refine qf fo_75_1 ?_
  refine ql ag_71 0 ?_
  rw [hlab]
  refine qm ?_
  refine Q1 (Yv.nilChkEp rfl eV) ?_
  refine Q1 (Yv.fieldEp rfl fo_116_0 eV) ?_
  refine Q1 (Yv.loadEp rfl ag_3 (i := 1) rfl eV (fun hg => fd0)) ?_
  refine Q1 (Yv.indexRow (j := x.f.toNat) rfl ss_71 (i := 6) rfl eV eV (fun hg => ⟨(Int.toNat_of_nonneg (by omega)).symm, by omega⟩)) ?_
  refine Q1 (Yv.loadEp rfl ag_99 (i := 6) rfl eV (fun hg => lab_at (by omega))) ?_
  refine qf fo_98_4 ?_
  refine ql ag_3 8 ?_
  refine Q1 (Yv.eqT (Yv.lookup1 (k := .i _ _) (i := 7) rfl mp_99 rfl eV eV rfl (lm_good _ _ rfl)) (get_lm _ _)) ?_
  refine Q1 (Yv.nilChkEp rfl eV) ?_
  refine Q1 (Yv.fieldEp rfl fo_116_1 eV) ?_
  refine AWQ.nil ?_
  refine p1 16 ?_
  refine AWL.storeEp1 (i := 1) rfl rfl rfl ag_3 rfl (E rfl rfl) (E rfl rfl) rfl rfl (by rw [fd_len]; omega) (nl ?_)
  refine AWP.done (by kernel_rfl) ?_
  refine ra ?_
  refine AW.ret (retI (.tmp rfl .nil) ?_)
  refine ⟨by rw [hok]; rfl, ?_⟩
  rw [if_pos hok, if_pos (.inl h3t), ← fd_jump]
  exact List.sublist_append_left _ _
 try replace h3f := odf h3f
 refine rs (Y1 (Yv.eql rfl eV eV) ?_)
 refine ya ?_
 refine AW.cond rfl (fun h4t => ?_) (fun h4f => ?_)
 ·try replace h4t := odt h4t
  obtain ⟨ha0, ha1⟩ := ha (by rw [h4t]; rfl)
  obtain ⟨hb0, hb1⟩ := hb (by rw [h4t]; rfl)
  refine rs (ym ?_)
  refine Y1 (Yv.nilChkEp rfl eV) ?_
  refine Y1 (Yv.fieldEp rfl fo_116_1 eV) ?_
  refine Y1 (Yv.loadEp rfl ag_3 (i := 1) rfl eV (fun hg => fd1)) ?_
  refine Y1 (Yv.addN_i64 rfl eV eV (fun hg => by omega)) ?_
  refine Y1 (Yv.nilChkEp rfl eV) ?_
  refine Y1 (Yv.fieldEp rfl fo_116_1 eV) ?_
  refine AWL.storeEp1 (i := 1) rfl rfl rfl ag_3 rfl (E rfl rfl) (E rfl rfl) rfl rfl (by rw [fd_len]; omega) (nl ?_)
  refine AW.eqS (S' := (([Ent.box s 75 (psD ps ob (.v (.slice (some ⟨g, 0, none⟩) n c))), Ent.row (some ⟨g, 0, none⟩) n c 116 7 (pre ++ frD (goF x) a)] ++ frE (goF x) a) ++ [Ent.row (some ⟨gl, 0, none⟩) nf lc 99 1 (bs.map mapT), Ent.map (bs.getD x.f.toNat 0) (lmT m)]) ++ [Ent.box b5 98 (insCells i), Ent.box b7 137 (hasCells (hasF i.kind))]) (by rw [show (pre ++ frD (goF x) a) = (pre ++ frD x a).set (pre.length + 1) (zi (x.at_ + 1)) from (fd_jump _).symm]; rfl) ?_
  refine AW.rseqP rfl ?_
  refine AWP.phase [true, true, true, true, true, true, true, true, true, true, true, true, true, true, true, true, true, true] 2 rfl (by kernel_rfl) (by kernel_rfl) ?_
  refine qf fo_98_6 ?_
  refine ql ag_3 8 ?_
  refine qm ?_
  refine Q1 (Yv.nilChkEp rfl eV) ?_
  refine Q1 (Yv.fieldEp rfl fo_116_2 eV) ?_
  refine Q1 (Yv.loadEp rfl ag_32 (i := 1) rfl eV (fun hg => fd2)) ?_
  refine qf fo_98_2 ?_
  refine ql ag_3 8 ?_
  refine Q1 (Yv.indexRow (j := i.a.toNat) rfl ss_32 (i := 2) rfl eV eV (fun hg => ⟨(Int.toNat_of_nonneg ha0).symm, show i.a.toNat < x.nr by omega⟩)) ?_
  refine Q1 (Yv.loadEp rfl ag_22 (i := 2) rfl eV (fun hg => word_at (show i.a.toNat < x.r.length by omega))) ?_
  refine qm ?_
  refine Q1 (Yv.nilChkEp rfl eV) ?_
  refine Q1 (Yv.fieldEp rfl fo_116_2 eV) ?_
  refine Q1 (Yv.loadEp rfl ag_32 (i := 1) rfl eV (fun hg => fd2)) ?_
  refine qf fo_98_3 ?_
  refine ql ag_3 8 ?_
  refine Q1 (Yv.indexRow (j := i.b.toNat) rfl ss_32 (i := 2) rfl eV eV (fun hg => ⟨(Int.toNat_of_nonneg hb0).symm, show i.b.toNat < x.nr by omega⟩)) ?_
  refine Q1 (Yv.loadEp rfl ag_22 (i := 2) rfl eV (fun hg => word_at (show i.b.toNat < x.r.length by omega))) ?_
  refine AWQ.nil ?_
  refine p1 18 ?_
  refine AWL.callT rfl rfl (B rfl) rfl ce_67 (E rfl rfl) (evsC (E rfl rfl) (evsC (E rfl rfl) (evsC (E rfl rfl) evs0))) (DHolds68 i.cond (rA x i.a) (rA x i.b)) ?_
  rintro t117 S117 rfl
  refine nl ?_
  refine p1 19 ?_
  refine ya ?_
  refine AWP.done (by kernel_rfl) ?_
  refine AW.seq ?_
  refine rs (ym (nl ?_))
  refine AW.cond rfl (fun h5t => ?_) (fun h5f => ?_)
  ·try replace h5t := odt h5t
   refine AW.regionP rfl ?_
   refine AWP.phase [true, true, true, true, true, true, true, true, true, true, true, true, true, true, true, true] 1 rfl (by kernel_rfl) (by kernel_rfl) ?_
   refine qm ?_
   refine qm ?_
   refine Q1 (Yv.nilChk rfl eV) ?_
   refine qf fo_75_1 ?_
   refine ql ag_71 0 ?_
   rw [hlab]
   refine qm ?_
   refine Q1 (Yv.nilChkEp rfl eV) ?_
   refine Q1 (Yv.fieldEp rfl fo_116_0 eV) ?_
   refine Q1 (Yv.loadEp rfl ag_3 (i := 1) rfl eV (fun hg => fd0)) ?_
   refine Q1 (Yv.indexRow (j := x.f.toNat) rfl ss_71 (i := 6) rfl eV eV (fun hg => ⟨(show (goF x).f = ((x.f.toNat : Nat) : Int) from (Int.toNat_of_nonneg hf0).symm), by omega⟩)) ?_
   refine Q1 (Yv.loadEp rfl ag_99 (i := 6) rfl eV (fun hg => lab_at (by omega))) ?_
   refine qf fo_98_4 ?_
   refine ql ag_3 8 ?_
   refine Q1 (Yv.eqT (Yv.lookup1 (k := .i _ _) (i := 7) rfl mp_99 rfl eV eV rfl (lm_good _ _ rfl)) (get_lm _ _)) ?_
   refine Q1 (Yv.nilChkEp rfl eV) ?_
   refine Q1 (Yv.fieldEp rfl fo_116_1 eV) ?_
   refine AWQ.nil ?_
   refine p1 16 ?_
   refine AWL.storeEp1 (i := 1) rfl rfl rfl ag_3 rfl (E rfl rfl) (E rfl rfl) rfl rfl (by rw [fd_len]; omega) (nl ?_)
   refine AWP.done (by kernel_rfl) ?_
   refine ra ?_
   refine AW.ret (retI (.tmp rfl .nil) ?_)
   refine ⟨by rw [hok]; rfl, ?_⟩
   rw [if_pos hok, if_pos (.inr h5t), show frE { x with at_ := getL i.l m } a = frE (goF x) a from rfl, show (pre ++ frD { x with at_ := getL i.l m } a) = (pre ++ frD (goF x) a).set (pre.length + 1) (zi (getL i.l m)) from (fd_jump (pre := pre) (x := goF x) (a := a) (getL i.l m)).symm]
   exact List.sublist_append_left _ _
  try replace h5f := odf h5f
  refine AW.skip ?_
  refine ra ?_
  refine AW.ret (retI (.tmp rfl .nil) ?_)
  refine ⟨by rw [hok]; rfl, ?_⟩
  rw [if_pos hok, if_neg (show ¬ (i.kind = 20 ∨ _) from fun e => e.elim h3f (by rw [h5f]; decide))]
  exact List.sublist_append_left _ _
 try replace h4f := odf h4f
 exfalso; omega

end Go.Proofs.YtpgbpdnmjeoeoaaGreat

namespace Go.Proofs.YtpgbpdnmjeoeoaaGreat
open Go Go.RowKit

theorem pLd2 {B P R : Ent} {F M : St} : ((B :: R :: F) ++ (P :: M)).Perm (B :: (([P, R] ++ F) ++ M)) := (List.perm_append_comm (l₁ := B :: R :: F) (l₂ := P :: M)).trans (List.Perm.symm ((List.Perm.swap P B _).trans (List.Perm.cons P (List.perm_append_comm (l₁ := B :: R :: F) (l₂ := M)))))
set_option maxHeartbeats 8000000 in
theorem Dvalue72L_ (s g n c pg : Nat) (ps : PS) (ob : Bool) (pre : List T) (x : Fr) (a : FA) (i : Ins) (l : List Pg) (hx : FrOk x) (hpg : ps.pages = mapT pg) (hl : PgOk l) (hd : ps.prog.data.length ≤ 1048576) (hz0 : 0 ≤ ps.prog.zero) (hz1 : ps.prog.zero ≤ 268435456) (hk : i.kind = 17) (ha : 0 ≤ i.a ∧ i.a < (x.nr : Int)) :
    ACalls Tryz.prog 71 [pv s, .ep (.slice (some ⟨g, 0, none⟩) n c) pre.length, .agg (insCells i)] (([Ent.box s 75 (psD ps ob (.v (.slice (some ⟨g, 0, none⟩) n c))), Ent.row (some ⟨g, 0, none⟩) n c 116 7 (pre ++ frD x a)] ++ frE x a) ++ memE 121 pg l) (fun t S => t = .tup [zw (if (sizeOk i.size && thereF (psData ps.prog) ps.heap (adF x i) (wI i.size)) = true then (leF (getM l) (adF x i) i.size.toNat) else 0#64), bv (sizeOk i.size && thereF (psData ps.prog) ps.heap (adF x i) (wI i.size))] ∧ ((([Ent.box s 75 (psD ps ob (.v (.slice (some ⟨g, 0, none⟩) n c))), Ent.row (some ⟨g, 0, none⟩) n c 116 7 (pre ++ frD x a)] ++ frE x a) ++ memE 121 pg l)).Sublist S) := by
 have hl1 := hx.r
 obtain ⟨ha0, ha1⟩ := ha
 refine ACalls.intro Tryz.func71 rfl Tryz.ntmps71 nB rfl fun X w0 => ?_
 refine rs ?_
 refine AWL.boxOp rfl rfl (B rfl) rfl (E rfl rfl) rfl (fun b5 => ?_)
 refine AWL.perm (List.perm_append_singleton _ _).symm ?_
 refine Y1 (Yv.assign rfl eV) ?_
 refine ya ?_
 refine AW.seq ?_
 refine rs (yf fo_98_0 ?_)
 refine yl ag_3 0 (nl ?_)
 refine AW.block ?_
 refine rs (Y1 (Yv.eql rfl eV eV) ?_)
 refine ya ?_
 refine AW.cond rfl (fun h0t => ?_) (fun h0f => ?_)
 ·try replace h0t := odt h0t
  exfalso; omega
 try replace h0f := odf h0f
 refine rs (Y1 (Yv.eql rfl eV eV) ?_)
 refine ya ?_
 refine AW.cond rfl (fun h1t => ?_) (fun h1f => ?_)
 ·try replace h1t := odt h1t
  exfalso; omega
 try replace h1f := odf h1f
 refine rs (Y1 (Yv.eql rfl eV eV) ?_)
 refine ya ?_
 refine AW.cond rfl (fun h2t => ?_) (fun h2f => ?_)
 ·try replace h2t := odt h2t
  exfalso; omega
 try replace h2f := odf h2f
 refine rs (Y1 (Yv.eql rfl eV eV) ?_)
 refine ya ?_
 refine AW.cond rfl (fun h3t => ?_) (fun h3f => ?_)
 ·try replace h3t := odt h3t
  exfalso; omega
 try replace h3f := odf h3f
 refine rs (Y1 (Yv.eql rfl eV eV) ?_)
 refine ya ?_
 refine AW.cond rfl (fun h4t => ?_) (fun h4f => ?_)
 ·try replace h4t := odt h4t
  exfalso; omega
 try replace h4f := odf h4f
 refine AW.skip ?_
 refine AW.rseqQ rfl (by kernel_rfl) ?_
 refine qm ?_
 refine Q1 (Yv.nilChkEp rfl eV) ?_
 refine Q1 (Yv.fieldEp rfl fo_116_2 eV) ?_
 refine Q1 (Yv.loadEp rfl ag_32 (i := 2) rfl eV (fun hg => fd2)) ?_
 refine qf fo_98_2 ?_
 refine ql ag_3 0 ?_
 refine Q1 (Yv.indexRow (j := i.a.toNat) rfl ss_32 (i := 3) rfl eV eV (fun hg => ⟨(Int.toNat_of_nonneg (by omega)).symm, by omega⟩)) ?_
 refine Q1 (Yv.loadEp rfl ag_22 (i := 3) rfl eV (fun hg => word_at (by omega))) ?_
 refine Q1 (Yv.assign rfl eV) ?_
 refine AWQ.nil ?_
 refine AW.seq ?_
 refine rs (yf fo_98_0 ?_)
 refine yl ag_3 0 ?_
 refine Y1 (Yv.eql rfl eV eV) (nl ?_)
 refine AW.cond rfl (fun h5t => ?_) (fun h5f => ?_)
 ·try replace h5t := odt h5t
  exfalso; omega
 try replace h5f := odf h5f
 refine AW.skip ?_
 refine AW.seq ?_
 refine rs (yf fo_98_0 ?_)
 refine yl ag_3 0 ?_
 refine Y1 (Yv.eql rfl eV eV) (nl ?_)
 refine AW.cond rfl (fun h6t => ?_) (fun h6f => ?_)
 ·try replace h6t := odt h6t
  refine rs (ym ?_)
  refine ym ?_
  refine yf fo_98_9 ?_
  refine yl ag_2 0 ?_
  refine Y1 (Yv.convW rfl Tryz.underlying2 kd_22 eV) ?_
  refine Y1 (Yv.addW rfl eV eV) ?_
  refine yf fo_98_8 ?_
  refine yl ag_3 0 ?_
  refine AWL.perm (S' := (Ent.box b5 98 (insCells i) :: Ent.row (some ⟨g, 0, none⟩) n c 116 7 (pre ++ frD x a) :: frE x a) ++ (Ent.box s 75 (psD ps ob (.v (.slice (some ⟨g, 0, none⟩) n c))) :: memE 121 pg l)) pLd2 ?_
  refine cE ce_22 (Ent.box b5 98 (insCells i) :: Ent.row (some ⟨g, 0, none⟩) n c 116 7 (pre ++ frD x a) :: frE x a) (Ent.box s 75 (psD ps ob (.v (.slice (some ⟨g, 0, none⟩) n c))) :: memE 121 pg l) rfl rfl rfl (DLoad20 s pg ps ob (.v (.slice (some ⟨g, 0, none⟩) n c)) l hpg hl hd hz0 hz1 (adF x i) i.size) ?_
  rintro t80 S80 ⟨rfl, rfl⟩
  refine AWL.perm (S' := Ent.box b5 98 (insCells i) :: (([Ent.box s 75 (psD ps ob (.v (.slice (some ⟨g, 0, none⟩) n c))), Ent.row (some ⟨g, 0, none⟩) n c 116 7 (pre ++ frD x a)] ++ frE x a) ++ memE 121 pg l)) pLd2.symm ?_
  refine Y1 (Yv.extract rfl eV rfl) ?_
  refine Y1 (Yv.extract rfl eV rfl) ?_
  refine Y1 (Yv.assign rfl eV) ?_
  refine ya ?_
  refine AW.ret (retI (.tmp rfl (.tmp rfl .nil)) ?_)
  exact ⟨rfl, List.sublist_cons_self _ _⟩
 try replace h6f := odf h6f
 exfalso; omega

theorem Dvalue72L (s g n c pg : Nat) (ps : PS) (ob : Bool) (pre : List T) (x : Fr) (a : FA) (i : Ins) (l : List Pg) (hx : FrOk x) (hpg : ps.pages = mapT pg) (hl : PgOk l) (hd : ps.prog.data.length ≤ 1048576) (hz0 : 0 ≤ ps.prog.zero) (hz1 : ps.prog.zero ≤ 268435456) (hk : i.kind = 17) (ha : 0 ≤ i.a ∧ i.a < (x.nr : Int)) : ACalls Tryz.prog 71 [pv s, .ep (.slice (some ⟨g, 0, none⟩) n c) pre.length, .agg (insCells i)] (([Ent.box s 75 (psD ps ob (.v (.slice (some ⟨g, 0, none⟩) n c))), Ent.row (some ⟨g, 0, none⟩) n c 116 7 (pre ++ frD x a)] ++ frE x a) ++ memE 121 pg l) (fun t S => t = .tup [zw (if (sizeOk i.size && thereF (psData ps.prog) ps.heap (adF x i) (wI i.size)) = true then (leF (getM l) (adF x i) i.size.toNat) else 0#64), bv (sizeOk i.size && thereF (psData ps.prog) ps.heap (adF x i) (wI i.size))] ∧ S = (([Ent.box s 75 (psD ps ob (.v (.slice (some ⟨g, 0, none⟩) n c))), Ent.row (some ⟨g, 0, none⟩) n c 116 7 (pre ++ frD x a)] ++ frE x a) ++ memE 121 pg l)) :=
 (Dvalue72L_ s g n c pg ps ob pre x a i l hx hpg hl hd hz0 hz1 hk ha).less fun t S' ⟨h1, h2⟩ => ⟨_, h2, h1, rfl⟩
set_option maxHeartbeats 16000000 in
theorem DstepLd_ (s g n c pg : Nat) (ps : PS) (ob : Bool) (pre : List T) (x : Fr) (a : FA) (i : Ins) (l : List Pg) (hx : FrOk x) (hpg : ps.pages = mapT pg) (hl : PgOk l) (hd : ps.prog.data.length ≤ 1048576) (hz0 : 0 ≤ ps.prog.zero) (hz1 : ps.prog.zero ≤ 268435456) (hk : i.kind = 17) (ha : (hasF i.kind).a = true → 0 ≤ i.a ∧ i.a < (x.nr : Int)) (hb : (hasF i.kind).b = true → 0 ≤ i.b ∧ i.b < (x.nr : Int)) (hdd : (hasF i.kind).d = true → 0 ≤ i.d ∧ i.d < (x.nr : Int)) (hg : (hasF i.kind).args = true → ∀ r ∈ i.args, 0 ≤ r ∧ r < (x.nr : Int)) (hgl : i.args.length ≤ 1048576) (hat : 0 ≤ x.at_ ∧ x.at_ ≤ 4611686018427387904) :
    ACalls Tryz.prog 47 [pv s, .ep (.slice (some ⟨g, 0, none⟩) n c) pre.length, .agg (insCells i)] (([Ent.box s 75 (psD ps ob (.v (.slice (some ⟨g, 0, none⟩) n c))), Ent.row (some ⟨g, 0, none⟩) n c 116 7 (pre ++ frD x a)] ++ frE x a) ++ memE 121 pg l) (fun t S => t = bv ((okS x.set (readsF i)) && (sizeOk i.size && thereF (psData ps.prog) ps.heap (adF x i) (wI i.size))) ∧ ((([Ent.box s 75 (psD ps ob (.v (.slice (some ⟨g, 0, none⟩) n c))), Ent.row (some ⟨g, 0, none⟩) n c 116 7 (pre ++ frD (if ((okS x.set (readsF i)) && (sizeOk i.size && thereF (psData ps.prog) ps.heap (adF x i) (wI i.size))) = true then goF (setD x i.d (leF (getM l) (adF x i) i.size.toNat)) else x) a)] ++ frE (if ((okS x.set (readsF i)) && (sizeOk i.size && thereF (psData ps.prog) ps.heap (adF x i) (wI i.size))) = true then goF (setD x i.d (leF (getM l) (adF x i) i.size.toNat)) else x) a) ++ memE 121 pg l)).Sublist S) := by
 have hl1 := hx.r
 have hl3 := hx.t
 obtain ⟨hat0, hat1⟩ := hat
 have ha1 := ha (by rw [hk]; rfl)
 obtain ⟨hd0, hd1⟩ := hdd (by rw [hk]; rfl)
 refine ACalls.intro Tryz.func47 rfl Tryz.ntmps47 nB rfl fun X w0 => ?_
 refine rs ?_
 refine AWL.boxOp rfl rfl (B rfl) rfl (E rfl rfl) rfl (fun b5 => ?_)
 refine AWL.perm (List.perm_append_singleton _ _).symm ?_
 refine ya ?_
 refine rs (yf fo_98_0 ?_)
 refine yl ag_3 0 ?_
 refine AWL.callT rfl rfl (B rfl) rfl ce_65 (E rfl rfl) (evsC (E rfl rfl) evs0) (Of36 i.kind) ?_
 rintro t16 S16 rfl
 refine ym ?_
 refine Y1 (Yv.extract rfl eV rfl) ?_
 refine Y1 (Yv.extract rfl eV rfl) ?_
 refine AWL.allocOp rfl rfl (B rfl) rfl zc_137 (fun b7 => ?_)
 refine AWL.perm (List.perm_append_singleton _ _).symm ?_
 refine AWL.storeBox (i := 0) rfl rfl rfl ag_137 rfl (E rfl rfl) (E rfl rfl) rfl rfl nB ?_
 refine ya ?_
 refine AW.seq ?_
 refine AW.rseqQ rfl (by kernel_rfl) ?_
 refine qf fo_137_1 ?_
 refine ql ag_4 0 ?_
 refine qm ?_
 refine kT (Yv.move rfl eV) ?_
 refine kT (Yv.nilChkEp rfl (Eg rfl rfl id)) ?_
 refine kT (Yv.fieldEp rfl fo_116_3 (Eg rfl rfl id)) ?_
 refine kT (Yv.loadEp rfl ag_114 (i := 3) rfl (Eg rfl rfl id) (fun hg => fd3)) ?_
 refine kT (Yv.fieldBox rfl fo_98_2 eV) ?_
 refine kT (Yv.loadBox rfl ag_3 (i := 1) rfl (Eg rfl rfl id) rfl) ?_
 refine kT (Yv.indexRow (j := i.a.toNat) rfl ss_114 (i := 5) rfl (Eg rfl rfl id) (Eg rfl rfl id) (fun hg => ⟨(Int.toNat_of_nonneg (ha (by simpa using hg)).1).symm, by have h8 := ha (by simpa using hg); omega⟩)) ?_
 refine kT (Yv.loadEp rfl ag_4 (i := 5) rfl (Eg rfl rfl id) (fun hg => bool_at (by have h9 := ha (by simpa using hg); omega))) ?_
 refine kT (Yv.not rfl (Eg rfl rfl id)) ?_
 refine Q1 (Yv.pickAnd rfl eV (Eg rfl rfl id)) ?_
 refine qm ?_
 refine kF (Yv.fieldBox rfl fo_137_2 eV) ?_
 refine kF (Yv.loadBox rfl ag_4 (i := 0) rfl (Eg rfl rfl id) rfl) ?_
 refine kF (Yv.move rfl (Eg rfl rfl id)) ?_
 refine kT (Yv.move rfl eV) ?_
 refine kT (Yv.nilChkEp rfl (Eg rfl rfl id)) ?_
 refine kT (Yv.fieldEp rfl fo_116_3 (Eg rfl rfl id)) ?_
 refine kT (Yv.loadEp rfl ag_114 (i := 3) rfl (Eg rfl rfl id) (fun hg => fd3)) ?_
 refine kT (Yv.fieldBox rfl fo_98_3 eV) ?_
 refine kT (Yv.loadBox rfl ag_3 (i := 1) rfl (Eg rfl rfl id) rfl) ?_
 refine kT (Yv.indexRow (j := i.b.toNat) rfl ss_114 (i := 5) rfl (Eg rfl rfl id) (Eg rfl rfl id) (fun hg => ⟨(Int.toNat_of_nonneg (hb (ar hg)).1).symm, by have h8 := hb (ar hg); omega⟩)) ?_
 refine kT (Yv.loadEp rfl ag_4 (i := 5) rfl (Eg rfl rfl id) (fun hg => bool_at (by have h9 := hb (ar hg); omega))) ?_
 refine kT (Yv.not rfl (Eg rfl rfl id)) ?_
 refine kF (Yv.pickAnd rfl (Eg rfl rfl id) (Eg rfl rfl id)) ?_
 refine Q1 (Yv.pickOr (t := .const (.bool true)) rfl eV (Eg rfl rfl id)) ?_
 refine AWQ.nil ?_
 refine AW.cond rfl (fun h0t => ?_) (fun h0f => ?_)
 ·try replace h0t := odt h0t
  have hbd := rd_bad (x := x) (i := i) (by simpa using h0t)
  refine ra ?_
  refine AW.ret (retI (.tmp rfl .nil) ?_)
  rw [hbd, Bool.false_and]
  refine ⟨rfl, ?_⟩
  rw [if_neg Bool.false_ne_true]
  exact (show ((([Ent.box s 75 (psD ps ob (.v (.slice (some ⟨g, 0, none⟩) n c))), Ent.row (some ⟨g, 0, none⟩) n c 116 7 (pre ++ frD x a)] ++ frE x a) ++ memE 121 pg l)).Sublist ([Ent.box b7 137 (hasCells (hasF i.kind)), Ent.box b5 98 (insCells i)] ++ (([Ent.box s 75 (psD ps ob (.v (.slice (some ⟨g, 0, none⟩) n c))), Ent.row (some ⟨g, 0, none⟩) n c 116 7 (pre ++ frD x a)] ++ frE x a) ++ memE 121 pg l)) from List.sublist_append_right _ _)
 try replace h0f := odf h0f
 have hr2 := rdE_ok (x := x) (i := i) (by simpa using h0f)
 refine AW.skip ?_
 refine AW.seq ?_
 refine ra ?_
 refine AW.block ?_
 refine AW.loop (fun (k : Nat) => [(0, true, pv s), (1, true, .ep (.slice (some ⟨g, 0, none⟩) n c) pre.length), (5, true, pv b5), (7, true, pv b7), (9, true, .v (.int .i64 (k : Int)))]) (fun (k : Nat) => ([Ent.box b7 137 (hasCells (hasF i.kind)), Ent.box b5 98 (insCells i)] ++ (([Ent.box s 75 (psD ps ob (.v (.slice (some ⟨g, 0, none⟩) n c))), Ent.row (some ⟨g, 0, none⟩) n c 116 7 (pre ++ frD x a)] ++ frE x a) ++ memE 121 pg l))) (fun (k : Nat) => k ≤ i.args.length ∧ ((hasF i.kind).args = true → okS x.set (i.args.take k) = true)) (fun (k : Nat) => i.args.length - k) 0 ?_ ?_ ?_ ?_
 ·exact ⟨Nat.zero_le _, fun _ => rfl⟩
 ·exact (su (su (su (su (su sn)))))
 ·rfl
 intro k ⟨hk0, hka⟩
 refine AW.seq ?_
 refine rs (ym ?_)
 refine yf fo_98_10 ?_
 refine yl ag_35 1 ?_
 refine Y1 (Yv.lenSl rfl so_35 (B rfl) eV len_args) ?_
 refine Y1 (Yv.lss rfl eV eV) ?_
 refine ym ?_
 refine gT (Yv.fieldBox rfl fo_137_3 eV) ?_
 refine gT (Yv.loadBox rfl ag_4 (i := 0) rfl (Eg rfl rfl id) rfl) ?_
 refine Y1 (Yv.pickAnd rfl eV (Eg rfl rfl id)) (nl ?_)
 refine AW.cond rfl (fun h1t => ?_) (fun h1f => ?_)
 ·try replace h1t := odt h1t
  have hk1 : k < i.args.length ∧ (hasF i.kind).args = true := by
   have h : (k : Int) < (i.args.length : Int) ∧ (hasF i.kind).args = true := by simpa using h1t
   exact ⟨by omega, h.2⟩
  have hkr := hg hk1.2 _ (getD_mem (l := i.args) hk1.1)
  refine AW.skip ?_
  refine AW.seq ?_
  refine AW.block ?_
  refine AW.rseqQ rfl (by kernel_rfl) ?_
  refine qm ?_
  refine Q1 (Yv.nilChkEp rfl eV) ?_
  refine Q1 (Yv.fieldEp rfl fo_116_3 eV) ?_
  refine Q1 (Yv.loadEp rfl ag_114 (i := 3) rfl eV (fun hg => fd3)) ?_
  refine qf fo_98_10 ?_
  refine ql ag_35 1 ?_
  refine qm ?_
  refine Q1 (Yv.indexSl rfl ss_35 (B rfl) eV eV (fun hg => ⟨rfl, (by first | omega | (simp only [len_code, len_funs, len_args, len_data, len_zw]; omega))⟩)) ?_
  refine Q1 (Yv.loadRp rfl ag_3 eV (fun hg => arg_at (by omega))) ?_
  refine Q1 (Yv.indexRow (j := (i.args.getD k default).toNat) rfl ss_114 (i := 5) rfl eV eV (fun hg => ⟨(Int.toNat_of_nonneg hkr.1).symm, by omega⟩)) ?_
  refine Q1 (Yv.loadEp rfl ag_4 (i := 5) rfl eV (fun hg => bool_at (by omega))) ?_
  refine Q1 (Yv.not rfl eV) ?_
  refine AWQ.nil ?_
  refine AW.cond rfl (fun h2t => ?_) (fun h2f => ?_)
  ·try replace h2t := odt h2t
   have hbd := rd_arg (x := x) (i := i) hk1.2 hk1.1 (by simpa using h2t)
   refine ra ?_
   refine AW.ret (retI (.tmp rfl .nil) ?_)
   rw [hbd, Bool.false_and]
   refine ⟨rfl, ?_⟩
   rw [if_neg Bool.false_ne_true]
   exact (show ((([Ent.box s 75 (psD ps ob (.v (.slice (some ⟨g, 0, none⟩) n c))), Ent.row (some ⟨g, 0, none⟩) n c 116 7 (pre ++ frD x a)] ++ frE x a) ++ memE 121 pg l)).Sublist ([Ent.box b7 137 (hasCells (hasF i.kind)), Ent.box b5 98 (insCells i)] ++ (([Ent.box s 75 (psD ps ob (.v (.slice (some ⟨g, 0, none⟩) n c))), Ent.row (some ⟨g, 0, none⟩) n c 116 7 (pre ++ frD x a)] ++ frE x a) ++ memE 121 pg l)) from List.sublist_append_right _ _)
  try replace h2f := odf h2f
  refine AW.skip ?_
  refine AW.region ?_
  refine ym ?_
  refine Y1 (Yv.addN_i64 rfl eV eV (fun hg => by omega)) ?_
  refine ya ?_
  refine ⟨k + 1, ⟨by omega, fun h => ?_⟩, by omega, (su (su (su (su (Sub.cons rfl (by simp) Sub.nil))))), rfl⟩
  rw [take_gd hk1.1, okS_app, hka h, okS_one, Bool.true_and]
  simpa using h2f
 try replace h1f := odf h1f
 have hok := rd_all hr2 hk0 hka (by simpa using h1f)
 refine AW.exit ?_
 refine AW.seq ?_
 refine rs (yf fo_98_0 ?_)
 refine yl ag_3 1 (nl ?_)
 refine AW.block ?_
 refine rs (Y1 (Yv.eql rfl eV eV) ?_)
 refine ya ?_
 refine AW.cond rfl (fun h3t => ?_) (fun h3f => ?_)
 ·try replace h3t := odt h3t
  exfalso; omega
 try replace h3f := odf h3f
 refine rs (Y1 (Yv.eql rfl eV eV) ?_)
 refine ya ?_
 refine AW.cond rfl (fun h4t => ?_) (fun h4f => ?_)
 ·try replace h4t := odt h4t
  exfalso; omega
 try replace h4f := odf h4f
 refine rs (Y1 (Yv.eql rfl eV eV) ?_)
 refine ya ?_
 refine AW.cond rfl (fun h5t => ?_) (fun h5f => ?_)
 ·try replace h5t := odt h5t
  exfalso; omega
 try replace h5f := odf h5f
 refine rs (Y1 (Yv.eql rfl eV eV) ?_)
 refine ya ?_
 refine AW.cond rfl (fun h6t => ?_) (fun h6f => ?_)
 ·try replace h6t := odt h6t
  exfalso; omega
 try replace h6f := odf h6f
 refine rs (Y1 (Yv.eql rfl eV eV) ?_)
 refine ya ?_
 refine AW.cond rfl (fun h7t => ?_) (fun h7f => ?_)
 ·try replace h7t := odt h7t
  exfalso; omega
 try replace h7f := odf h7f
 refine rs (Y1 (Yv.eql rfl eV eV) ?_)
 refine ya ?_
 refine AW.cond rfl (fun h8t => ?_) (fun h8f => ?_)
 ·try replace h8t := odt h8t
  exfalso; omega
 try replace h8f := odf h8f
 refine AW.seq ?_
 refine rs (Y1 (Yv.eql rfl eV eV) ?_)
 refine ya ?_
 refine AW.cond rfl (fun h9t => ?_) (fun h9f => ?_)
 ·try replace h9t := odt h9t
  exfalso; omega
 try replace h9f := odf h9f
 refine rs (Y1 (Yv.eql rfl eV eV) ?_)
 refine ya ?_
 refine AW.cond rfl (fun h10t => ?_) (fun h10f => ?_)
 ·try replace h10t := odt h10t
  exfalso; omega
 try replace h10f := odf h10f
 refine rs (Y1 (Yv.eql rfl eV eV) ?_)
 refine ya ?_
 refine AW.cond rfl (fun h11t => ?_) (fun h11f => ?_)
 ·try replace h11t := odt h11t
  exfalso; omega
 try replace h11f := odf h11f
 refine AW.region ?_
 refine Y1 (Yv.eql rfl eV eV) ?_
 refine ya ?_
 refine AW.cond rfl (fun h12t => ?_) (fun h12f => ?_)
 ·try replace h12t := odt h12t
  exfalso; omega
 try replace h12f := odf h12f
 refine AW.skip ?_
 refine rs (ym ?_)
 refine ym ?_
 refine Y1 (Yv.loadBoxA rfl ag_98 (i := 1) rfl eV rfl rfl) ?_
 refine cE ce_71 [Ent.box b7 137 (hasCells (hasF i.kind)), Ent.box b5 98 (insCells i)] (([Ent.box s 75 (psD ps ob (.v (.slice (some ⟨g, 0, none⟩) n c))), Ent.row (some ⟨g, 0, none⟩) n c 116 7 (pre ++ frD x a)] ++ frE x a) ++ memE 121 pg l) rfl rfl rfl (Dvalue72L s g n c pg ps ob pre x a i l hx hpg hl hd hz0 hz1 hk ha1) ?_
 rintro t230 S230 ⟨rfl, rfl⟩
 refine ym ?_
 refine Y1 (Yv.extract rfl eV rfl) ?_
 refine Y1 (Yv.extract rfl eV rfl) ?_
 refine Y1 (Yv.assign rfl eV) ?_
 refine ya ?_
 refine AW.seq ?_
 refine rs (ym ?_)
 refine Y1 (Yv.not rfl eV) (nl ?_)
 refine AW.cond rfl (fun h13t => ?_) (fun h13f => ?_)
 ·try replace h13t := odt h13t
  have hlk : (sizeOk i.size && thereF (psData ps.prog) ps.heap (adF x i) (wI i.size)) = false := by simpa only [Bool.not_eq_true'] using h13t
  refine ra ?_
  refine AW.ret (retI (.tmp rfl .nil) ?_)
  rw [hlk, Bool.and_false]
  refine ⟨rfl, ?_⟩
  rw [if_neg Bool.false_ne_true]
  exact (show ((([Ent.box s 75 (psD ps ob (.v (.slice (some ⟨g, 0, none⟩) n c))), Ent.row (some ⟨g, 0, none⟩) n c 116 7 (pre ++ frD x a)] ++ frE x a) ++ memE 121 pg l)).Sublist ([Ent.box b7 137 (hasCells (hasF i.kind)), Ent.box b5 98 (insCells i)] ++ (([Ent.box s 75 (psD ps ob (.v (.slice (some ⟨g, 0, none⟩) n c))), Ent.row (some ⟨g, 0, none⟩) n c 116 7 (pre ++ frD x a)] ++ frE x a) ++ memE 121 pg l)) from List.sublist_append_right _ _)
 try replace h13f := odf h13f
 have hlk : (sizeOk i.size && thereF (psData ps.prog) ps.heap (adF x i) (wI i.size)) = true := by simpa only [Bool.not_eq_false'] using h13f
 refine AW.skip ?_
 refine AW.rseqP rfl ?_
 refine AWP.phase [true, true, true, true, true, true, true, true] 1 rfl (by kernel_rfl) (by kernel_rfl) ?_
 refine qm ?_
 refine Q1 (Yv.nilChkEp rfl eV) ?_
 refine Q1 (Yv.fieldEp rfl fo_116_2 eV) ?_
 refine Q1 (Yv.loadEp rfl ag_32 (i := 3) rfl eV (fun hg => fd2)) ?_
 refine qf fo_98_1 ?_
 refine ql ag_3 1 ?_
 refine qm ?_
 refine Q1 (Yv.indexRow (j := i.d.toNat) rfl ss_32 (i := 4) rfl eV eV (fun hg => ⟨(Int.toNat_of_nonneg (by omega)).symm, by omega⟩)) ?_
 refine AWQ.nil ?_
 refine p1 8 ?_
 refine AWL.storeEp1 (i := 4) rfl rfl rfl ag_22 rfl (E rfl rfl) (E rfl rfl) rfl rfl (by rw [List.length_map]; omega) (nl ?_)
 refine AWP.done (by kernel_rfl) ?_
 refine AW.rseqP rfl ?_
 refine AWP.phase [true, true, true, true, true, true, true] 1 rfl (by kernel_rfl) (by kernel_rfl) ?_
 refine qm ?_
 refine Q1 (Yv.nilChkEp rfl eV) ?_
 refine Q1 (Yv.fieldEp rfl fo_116_3 eV) ?_
 refine Q1 (Yv.loadEp rfl ag_114 (i := 3) rfl eV (fun hg => fd3)) ?_
 refine qf fo_98_1 ?_
 refine ql ag_3 1 ?_
 refine Q1 (Yv.indexRow (j := i.d.toNat) rfl ss_114 (i := 5) rfl eV eV (fun hg => ⟨(Int.toNat_of_nonneg (by omega)).symm, by omega⟩)) ?_
 refine AWQ.nil ?_
 refine p1 7 ?_
 refine AWL.storeEp1 (i := 5) rfl rfl rfl ag_4 rfl (E rfl rfl) (E rfl rfl) rfl rfl (by rw [List.length_map]; omega) (nl ?_)
 refine AWP.done (by kernel_rfl) ?_
 refine rs (ym ?_)
 refine Y1 (Yv.nilChkEp rfl eV) ?_
 refine Y1 (Yv.fieldEp rfl fo_116_1 eV) ?_
 refine Y1 (Yv.loadEp rfl ag_3 (i := 3) rfl eV (fun hg => fd1)) ?_
 refine Y1 (Yv.addN_i64 rfl eV eV (fun hg => by omega)) ?_
 refine Y1 (Yv.nilChkEp rfl eV) ?_
 refine Y1 (Yv.fieldEp rfl fo_116_1 eV) ?_
 refine AWL.storeEp1 (i := 3) rfl rfl rfl ag_3 rfl (E rfl rfl) (E rfl rfl) rfl rfl (by rw [fd_len]; omega) (nl ?_)
 refine ra ?_
 refine AW.ret (retI (.tmp rfl .nil) ?_)
 rw [hok, hlk]
 refine ⟨rfl, ?_⟩
 rw [if_pos rfl]
 refine (List.sublist_append_right ([Ent.box b7 137 (hasCells (hasF i.kind)), Ent.box b5 98 (insCells i)]) ((([Ent.box s 75 (psD ps ob (.v (.slice (some ⟨g, 0, none⟩) n c))), Ent.row (some ⟨g, 0, none⟩) n c 116 7 (pre ++ frD (goF (setD x i.d (leF (getM l) (adF x i) i.size.toNat))) a)] ++ frE (goF (setD x i.d (leF (getM l) (adF x i) i.size.toNat))) a) ++ memE 121 pg l))).trans ?_
 rw [show frE (goF (setD x i.d (leF (getM l) (adF x i) i.size.toNat))) a = frE (setD x i.d (leF (getM l) (adF x i) i.size.toNat)) a from rfl, setE_rows, show frD (goF (setD x i.d (leF (getM l) (adF x i) i.size.toNat))) a = frD (goF x) a from rfl, show goF x = { x with at_ := x.at_ + 1 } from rfl, ← fd_jump]
 exact List.Sublist.refl _

end Go.Proofs.YtpgbpdnmjeoeoaaGreat

namespace Go.Proofs.YtpgbpdnmjeoeoaaGreat
open Go Go.RowKit

theorem pSt {B F M : St} {P R : Ent} : ((B ++ (R :: F)) ++ (P :: M)).Perm (B ++ (([P, R] ++ F) ++ M)) := by
 rw [List.append_assoc]
 exact List.perm_middle.append_left B
set_option maxHeartbeats 16000000 in
theorem DstepSt_ (s g n c pg : Nat) (ps : PS) (ob : Bool) (pre : List T) (x : Fr) (a : FA) (i : Ins) (l : List Pg) (hx : FrOk x) (hpg : ps.pages = mapT pg) (hl : PgOk l) (hd : ps.prog.data.length ≤ 1048576) (hz0 : 0 ≤ ps.prog.zero) (hz1 : ps.prog.zero ≤ 268435456) (hk : i.kind = 18) (ha : (hasF i.kind).a = true → 0 ≤ i.a ∧ i.a < (x.nr : Int)) (hb : (hasF i.kind).b = true → 0 ≤ i.b ∧ i.b < (x.nr : Int)) (hdd : (hasF i.kind).d = true → 0 ≤ i.d ∧ i.d < (x.nr : Int)) (hg : (hasF i.kind).args = true → ∀ r ∈ i.args, 0 ≤ r ∧ r < (x.nr : Int)) (hgl : i.args.length ≤ 1048576) (hat : 0 ≤ x.at_ ∧ x.at_ ≤ 4611686018427387904) :
    ACalls Tryz.prog 47 [pv s, .ep (.slice (some ⟨g, 0, none⟩) n c) pre.length, .agg (insCells i)] (([Ent.box s 75 (psD ps ob (.v (.slice (some ⟨g, 0, none⟩) n c))), Ent.row (some ⟨g, 0, none⟩) n c 116 7 (pre ++ frD x a)] ++ frE x a) ++ memE 121 pg l) (fun t S => t = bv ((okS x.set (readsF i)) && (sizeOk i.size && thereF (psData ps.prog) ps.heap (adF x i) (wI i.size))) ∧ ∃ l', ((([Ent.box s 75 (psD ps ob (.v (.slice (some ⟨g, 0, none⟩) n c))), Ent.row (some ⟨g, 0, none⟩) n c 116 7 (pre ++ frD (if (okS x.set (readsF i)) = true then goF x else x) a)] ++ frE (if (okS x.set (readsF i)) = true then goF x else x) a) ++ memE 121 pg l')).Sublist S ∧ PgOk l' ∧ getM l' = if ((okS x.set (readsF i)) && (sizeOk i.size && thereF (psData ps.prog) ps.heap (adF x i) (wI i.size))) = true then putsF (getM l) (adF x i) (rA x i.b) i.size.toNat else getM l) := by
 have hl1 := hx.r
 have hl3 := hx.t
 obtain ⟨hat0, hat1⟩ := hat
 obtain ⟨ha0, ha1⟩ := ha (by rw [hk]; rfl)
 obtain ⟨hb0, hb1⟩ := hb (by rw [hk]; rfl)
 refine ACalls.intro Tryz.func47 rfl Tryz.ntmps47 nB rfl fun X w0 => ?_
 refine rs ?_
 refine AWL.boxOp rfl rfl (B rfl) rfl (E rfl rfl) rfl (fun b5 => ?_)
 refine AWL.perm (List.perm_append_singleton _ _).symm ?_
 refine ya ?_
 refine rs (yf fo_98_0 ?_)
 refine yl ag_3 0 ?_
 refine AWL.callT rfl rfl (B rfl) rfl ce_65 (E rfl rfl) (evsC (E rfl rfl) evs0) (Of36 i.kind) ?_
 rintro t16 S16 rfl
 refine ym ?_
 refine Y1 (Yv.extract rfl eV rfl) ?_
 refine Y1 (Yv.extract rfl eV rfl) ?_
 refine AWL.allocOp rfl rfl (B rfl) rfl zc_137 (fun b7 => ?_)
 refine AWL.perm (List.perm_append_singleton _ _).symm ?_
 refine AWL.storeBox (i := 0) rfl rfl rfl ag_137 rfl (E rfl rfl) (E rfl rfl) rfl rfl nB ?_
 refine ya ?_
 refine AW.seq ?_
 refine AW.rseqQ rfl (by kernel_rfl) ?_
 refine qf fo_137_1 ?_
 refine ql ag_4 0 ?_
 refine qm ?_
 refine kT (Yv.move rfl eV) ?_
 refine kT (Yv.nilChkEp rfl (Eg rfl rfl id)) ?_
 refine kT (Yv.fieldEp rfl fo_116_3 (Eg rfl rfl id)) ?_
 refine kT (Yv.loadEp rfl ag_114 (i := 3) rfl (Eg rfl rfl id) (fun hg => fd3)) ?_
 refine kT (Yv.fieldBox rfl fo_98_2 eV) ?_
 refine kT (Yv.loadBox rfl ag_3 (i := 1) rfl (Eg rfl rfl id) rfl) ?_
 refine kT (Yv.indexRow (j := i.a.toNat) rfl ss_114 (i := 5) rfl (Eg rfl rfl id) (Eg rfl rfl id) (fun hg => ⟨(Int.toNat_of_nonneg (ha (by simpa using hg)).1).symm, by have h8 := ha (by simpa using hg); omega⟩)) ?_
 refine kT (Yv.loadEp rfl ag_4 (i := 5) rfl (Eg rfl rfl id) (fun hg => bool_at (by have h9 := ha (by simpa using hg); omega))) ?_
 refine kT (Yv.not rfl (Eg rfl rfl id)) ?_
 refine Q1 (Yv.pickAnd rfl eV (Eg rfl rfl id)) ?_
 refine qm ?_
 refine kF (Yv.fieldBox rfl fo_137_2 eV) ?_
 refine kF (Yv.loadBox rfl ag_4 (i := 0) rfl (Eg rfl rfl id) rfl) ?_
 refine kF (Yv.move rfl (Eg rfl rfl id)) ?_
 refine kT (Yv.move rfl eV) ?_
 refine kT (Yv.nilChkEp rfl (Eg rfl rfl id)) ?_
 refine kT (Yv.fieldEp rfl fo_116_3 (Eg rfl rfl id)) ?_
 refine kT (Yv.loadEp rfl ag_114 (i := 3) rfl (Eg rfl rfl id) (fun hg => fd3)) ?_
 refine kT (Yv.fieldBox rfl fo_98_3 eV) ?_
 refine kT (Yv.loadBox rfl ag_3 (i := 1) rfl (Eg rfl rfl id) rfl) ?_
 refine kT (Yv.indexRow (j := i.b.toNat) rfl ss_114 (i := 5) rfl (Eg rfl rfl id) (Eg rfl rfl id) (fun hg => ⟨(Int.toNat_of_nonneg (hb (ar hg)).1).symm, by have h8 := hb (ar hg); omega⟩)) ?_
 refine kT (Yv.loadEp rfl ag_4 (i := 5) rfl (Eg rfl rfl id) (fun hg => bool_at (by have h9 := hb (ar hg); omega))) ?_
 refine kT (Yv.not rfl (Eg rfl rfl id)) ?_
 refine kF (Yv.pickAnd rfl (Eg rfl rfl id) (Eg rfl rfl id)) ?_
 refine Q1 (Yv.pickOr (t := .const (.bool true)) rfl eV (Eg rfl rfl id)) ?_
 refine AWQ.nil ?_
 refine AW.cond rfl (fun h0t => ?_) (fun h0f => ?_)
 ·try replace h0t := odt h0t
  have hbd := rd_bad (x := x) (i := i) (by simpa using h0t)
  refine ra ?_
  refine AW.ret (retI (.tmp rfl .nil) ?_)
  rw [hbd, Bool.false_and]
  refine ⟨rfl, l, ?_, hl, ?_⟩
  ·rw [if_neg Bool.false_ne_true]
   exact (show ((([Ent.box s 75 (psD ps ob (.v (.slice (some ⟨g, 0, none⟩) n c))), Ent.row (some ⟨g, 0, none⟩) n c 116 7 (pre ++ frD x a)] ++ frE x a) ++ memE 121 pg l)).Sublist ([Ent.box b7 137 (hasCells (hasF i.kind)), Ent.box b5 98 (insCells i)] ++ (([Ent.box s 75 (psD ps ob (.v (.slice (some ⟨g, 0, none⟩) n c))), Ent.row (some ⟨g, 0, none⟩) n c 116 7 (pre ++ frD x a)] ++ frE x a) ++ memE 121 pg l)) from List.sublist_append_right _ _)
  rw [if_neg Bool.false_ne_true]
 try replace h0f := odf h0f
 have hr2 := rdE_ok (x := x) (i := i) (by simpa using h0f)
 refine AW.skip ?_
 refine AW.seq ?_
 refine ra ?_
 refine AW.block ?_
 refine AW.loop (fun (k : Nat) => [(0, true, pv s), (1, true, .ep (.slice (some ⟨g, 0, none⟩) n c) pre.length), (5, true, pv b5), (7, true, pv b7), (9, true, .v (.int .i64 (k : Int)))]) (fun (k : Nat) => ([Ent.box b7 137 (hasCells (hasF i.kind)), Ent.box b5 98 (insCells i)] ++ (([Ent.box s 75 (psD ps ob (.v (.slice (some ⟨g, 0, none⟩) n c))), Ent.row (some ⟨g, 0, none⟩) n c 116 7 (pre ++ frD x a)] ++ frE x a) ++ memE 121 pg l))) (fun (k : Nat) => k ≤ i.args.length ∧ ((hasF i.kind).args = true → okS x.set (i.args.take k) = true)) (fun (k : Nat) => i.args.length - k) 0 ?_ ?_ ?_ ?_
 ·exact ⟨Nat.zero_le _, fun _ => rfl⟩
 ·exact (su (su (su (su (su sn)))))
 ·rfl
 intro k ⟨hk0, hka⟩
 refine AW.seq ?_
 refine rs (ym ?_)
 refine yf fo_98_10 ?_
 refine yl ag_35 1 ?_
 refine Y1 (Yv.lenSl rfl so_35 (B rfl) eV len_args) ?_
 refine Y1 (Yv.lss rfl eV eV) ?_
 refine ym ?_
 refine gT (Yv.fieldBox rfl fo_137_3 eV) ?_
 refine gT (Yv.loadBox rfl ag_4 (i := 0) rfl (Eg rfl rfl id) rfl) ?_
 refine Y1 (Yv.pickAnd rfl eV (Eg rfl rfl id)) (nl ?_)
 refine AW.cond rfl (fun h1t => ?_) (fun h1f => ?_)
 ·try replace h1t := odt h1t
  have hk1 : k < i.args.length ∧ (hasF i.kind).args = true := by
   have h : (k : Int) < (i.args.length : Int) ∧ (hasF i.kind).args = true := by simpa using h1t
   exact ⟨by omega, h.2⟩
  have hkr := hg hk1.2 _ (getD_mem (l := i.args) hk1.1)
  refine AW.skip ?_
  refine AW.seq ?_
  refine AW.block ?_
  refine AW.rseqQ rfl (by kernel_rfl) ?_
  refine qm ?_
  refine Q1 (Yv.nilChkEp rfl eV) ?_
  refine Q1 (Yv.fieldEp rfl fo_116_3 eV) ?_
  refine Q1 (Yv.loadEp rfl ag_114 (i := 3) rfl eV (fun hg => fd3)) ?_
  refine qf fo_98_10 ?_
  refine ql ag_35 1 ?_
  refine qm ?_
  refine Q1 (Yv.indexSl rfl ss_35 (B rfl) eV eV (fun hg => ⟨rfl, (by first | omega | (simp only [len_code, len_funs, len_args, len_data, len_zw]; omega))⟩)) ?_
  refine Q1 (Yv.loadRp rfl ag_3 eV (fun hg => arg_at (by omega))) ?_
  refine Q1 (Yv.indexRow (j := (i.args.getD k default).toNat) rfl ss_114 (i := 5) rfl eV eV (fun hg => ⟨(Int.toNat_of_nonneg hkr.1).symm, by omega⟩)) ?_
  refine Q1 (Yv.loadEp rfl ag_4 (i := 5) rfl eV (fun hg => bool_at (by omega))) ?_
  refine Q1 (Yv.not rfl eV) ?_
  refine AWQ.nil ?_
  refine AW.cond rfl (fun h2t => ?_) (fun h2f => ?_)
  ·try replace h2t := odt h2t
   have hbd := rd_arg (x := x) (i := i) hk1.2 hk1.1 (by simpa using h2t)
   refine ra ?_
   refine AW.ret (retI (.tmp rfl .nil) ?_)
   rw [hbd, Bool.false_and]
   refine ⟨rfl, l, ?_, hl, ?_⟩
   ·rw [if_neg Bool.false_ne_true]
    exact (show ((([Ent.box s 75 (psD ps ob (.v (.slice (some ⟨g, 0, none⟩) n c))), Ent.row (some ⟨g, 0, none⟩) n c 116 7 (pre ++ frD x a)] ++ frE x a) ++ memE 121 pg l)).Sublist ([Ent.box b7 137 (hasCells (hasF i.kind)), Ent.box b5 98 (insCells i)] ++ (([Ent.box s 75 (psD ps ob (.v (.slice (some ⟨g, 0, none⟩) n c))), Ent.row (some ⟨g, 0, none⟩) n c 116 7 (pre ++ frD x a)] ++ frE x a) ++ memE 121 pg l)) from List.sublist_append_right _ _)
   rw [if_neg Bool.false_ne_true]
  try replace h2f := odf h2f
  refine AW.skip ?_
  refine AW.region ?_
  refine ym ?_
  refine Y1 (Yv.addN_i64 rfl eV eV (fun hg => by omega)) ?_
  refine ya ?_
  refine ⟨k + 1, ⟨by omega, fun h => ?_⟩, by omega, (su (su (su (su (Sub.cons rfl (by simp) Sub.nil))))), rfl⟩
  rw [take_gd hk1.1, okS_app, hka h, okS_one, Bool.true_and]
  simpa using h2f
 try replace h1f := odf h1f
 have hok := rd_all hr2 hk0 hka (by simpa using h1f)
 refine AW.exit ?_
 refine AW.seq ?_
 refine rs (yf fo_98_0 ?_)
 refine yl ag_3 1 (nl ?_)
 refine AW.block ?_
 refine rs (Y1 (Yv.eql rfl eV eV) ?_)
 refine ya ?_
 refine AW.cond rfl (fun h3t => ?_) (fun h3f => ?_)
 ·try replace h3t := odt h3t
  exfalso; omega
 try replace h3f := odf h3f
 refine rs (Y1 (Yv.eql rfl eV eV) ?_)
 refine ya ?_
 refine AW.cond rfl (fun h4t => ?_) (fun h4f => ?_)
 ·try replace h4t := odt h4t
  exfalso; omega
 try replace h4f := odf h4f
 refine rs (Y1 (Yv.eql rfl eV eV) ?_)
 refine ya ?_
 refine AW.cond rfl (fun h5t => ?_) (fun h5f => ?_)
 ·try replace h5t := odt h5t
  refine rs (ym ?_)
  refine Y1 (Yv.nilChkEp rfl eV) ?_
  refine Y1 (Yv.fieldEp rfl fo_116_1 eV) ?_
  refine Y1 (Yv.loadEp rfl ag_3 (i := 3) rfl eV (fun hg => fd1)) ?_
  refine Y1 (Yv.addN_i64 rfl eV eV (fun hg => by omega)) ?_
  refine Y1 (Yv.nilChkEp rfl eV) ?_
  refine Y1 (Yv.fieldEp rfl fo_116_1 eV) ?_
  refine AWL.storeEp1 (i := 3) rfl rfl rfl ag_3 rfl (E rfl rfl) (E rfl rfl) rfl rfl (by rw [fd_len]; omega) (nl ?_)
  refine AW.eqS (S' := [Ent.box b7 137 (hasCells (hasF i.kind)), Ent.box b5 98 (insCells i)] ++ (([Ent.box s 75 (psD ps ob (.v (.slice (some ⟨g, 0, none⟩) n c))), Ent.row (some ⟨g, 0, none⟩) n c 116 7 (pre ++ frD (goF x) a)] ++ frE (goF x) a) ++ memE 121 pg l)) (by rw [show (pre ++ frD (goF x) a) = (pre ++ frD x a).set (pre.length + 1) (zi (x.at_ + 1)) from (fd_jump _).symm]; rfl) ?_
  refine AW.rseqP rfl ?_
  refine AWP.phase [true, true, true, true, true, true, true, true, true, true, true, true, true, true, true, true, true, true, true, true, true, true, true] 2 rfl (by kernel_rfl) (by kernel_rfl) ?_
  refine qm ?_
  refine qm ?_
  refine Q1 (Yv.nilChkEp rfl eV) ?_
  refine Q1 (Yv.fieldEp rfl fo_116_2 eV) ?_
  refine Q1 (Yv.loadEp rfl ag_32 (i := 3) rfl eV (fun hg => fd2)) ?_
  refine qf fo_98_2 ?_
  refine ql ag_3 1 ?_
  refine Q1 (Yv.indexRow (j := i.a.toNat) rfl ss_32 (i := 4) rfl eV eV (fun hg => ⟨(Int.toNat_of_nonneg ha0).symm, show i.a.toNat < x.nr by omega⟩)) ?_
  refine Q1 (Yv.loadEp rfl ag_22 (i := 4) rfl eV (fun hg => word_at (show i.a.toNat < x.r.length by omega))) ?_
  refine qf fo_98_9 ?_
  refine ql ag_2 1 ?_
  refine Q1 (Yv.convW rfl Tryz.underlying2 kd_22 eV) ?_
  refine Q1 (Yv.addW rfl eV eV) ?_
  refine qf fo_98_8 ?_
  refine ql ag_3 1 ?_
  refine qm ?_
  refine Q1 (Yv.nilChkEp rfl eV) ?_
  refine Q1 (Yv.fieldEp rfl fo_116_2 eV) ?_
  refine Q1 (Yv.loadEp rfl ag_32 (i := 3) rfl eV (fun hg => fd2)) ?_
  refine qf fo_98_3 ?_
  refine ql ag_3 1 ?_
  refine Q1 (Yv.indexRow (j := i.b.toNat) rfl ss_32 (i := 4) rfl eV eV (fun hg => ⟨(Int.toNat_of_nonneg hb0).symm, show i.b.toNat < x.nr by omega⟩)) ?_
  refine Q1 (Yv.loadEp rfl ag_22 (i := 4) rfl eV (fun hg => word_at (show i.b.toNat < x.r.length by omega))) ?_
  refine AWQ.nil ?_
  refine p1 23 ?_
  refine AWL.perm (S' := ([Ent.box b7 137 (hasCells (hasF i.kind)), Ent.box b5 98 (insCells i)] ++ (Ent.row (some ⟨g, 0, none⟩) n c 116 7 (pre ++ frD (goF x) a) :: frE (goF x) a)) ++ (Ent.box s 75 (psD ps ob (.v (.slice (some ⟨g, 0, none⟩) n c))) :: memE 121 pg l)) pSt ?_
  refine cE ce_15 ([Ent.box b7 137 (hasCells (hasF i.kind)), Ent.box b5 98 (insCells i)] ++ (Ent.row (some ⟨g, 0, none⟩) n c 116 7 (pre ++ frD (goF x) a) :: frE (goF x) a)) (Ent.box s 75 (psD ps ob (.v (.slice (some ⟨g, 0, none⟩) n c))) :: memE 121 pg l) rfl rfl rfl (DStore18 s pg ps ob (.v (.slice (some ⟨g, 0, none⟩) n c)) l hpg hl hd hz0 hz1 (adF x i) i.size (rA x i.b)) ?_
  rintro t167 S167 ⟨rfl, l2, rfl, hl2, hm2⟩
  refine AWL.perm (S' := [Ent.box b7 137 (hasCells (hasF i.kind)), Ent.box b5 98 (insCells i)] ++ (([Ent.box s 75 (psD ps ob (.v (.slice (some ⟨g, 0, none⟩) n c))), Ent.row (some ⟨g, 0, none⟩) n c 116 7 (pre ++ frD (goF x) a)] ++ frE (goF x) a) ++ memE 121 pg l2)) pSt.symm (nl ?_)
  refine p1 24 ?_
  refine ya ?_
  refine AWP.done (by kernel_rfl) ?_
  refine AW.ret (retI (.tmp rfl .nil) ?_)
  rw [hok, Bool.true_and]
  refine ⟨rfl, l2, ?_, hl2, hm2⟩
  rw [if_pos rfl]
  exact (show ((([Ent.box s 75 (psD ps ob (.v (.slice (some ⟨g, 0, none⟩) n c))), Ent.row (some ⟨g, 0, none⟩) n c 116 7 (pre ++ frD (goF x) a)] ++ frE (goF x) a) ++ memE 121 pg l2)).Sublist ([Ent.box b7 137 (hasCells (hasF i.kind)), Ent.box b5 98 (insCells i)] ++ (([Ent.box s 75 (psD ps ob (.v (.slice (some ⟨g, 0, none⟩) n c))), Ent.row (some ⟨g, 0, none⟩) n c 116 7 (pre ++ frD (goF x) a)] ++ frE (goF x) a) ++ memE 121 pg l2)) from List.sublist_append_right _ _)
 try replace h5f := odf h5f
 exfalso; omega

def JQD (s g c k : Nat) (ps : PS) (ob : Bool) (pre : List T) (x : Fr) (a : FA) (i : Ins) (b : Bool) (S : St) : Prop :=
 match calleeF ps.prog x i with
 | none => b = false ∧ S = [Ent.box s 75 (psD ps ob (.v (.slice (some ⟨g, 0, none⟩) (k + 1) c))), Ent.row (some ⟨g, 0, none⟩) (k + 1) c 116 7 (pre ++ frD x a)] ++ frE x a
 | some f => if i.kind = 24 ∨ i.kind = 25 then b = true ∧ ∃ g' c' a', S = [Ent.box s 75 (psD ps ob (.v (.slice (some ⟨g', 0, none⟩) (k + 1) c'))), Ent.row (some ⟨g', 0, none⟩) (k + 1) c' 116 7 (pre ++ frD (openFr (ps.prog.funs.getD f default) f (argsF x i) x.d) a')] ++ frE (openFr (ps.prog.funs.getD f default) f (argsF x i) x.d) a'
  else if 1048576 ≤ k + 1 then b = false ∧ S = [Ent.box s 75 (psD ps ob (.v (.slice (some ⟨g, 0, none⟩) (k + 1) c))), Ent.row (some ⟨g, 0, none⟩) (k + 1) c 116 7 (pre ++ frD x a)] ++ frE x a
  else b = true ∧ ∃ g' c' a', S = [Ent.box s 75 (psD ps ob (.v (.slice (some ⟨g', 0, none⟩) (k + 2) c'))), Ent.row (some ⟨g', 0, none⟩) (k + 2) c' 116 7 (pre ++ frD (callF ps.strict x) a ++ frD (openFr (ps.prog.funs.getD f default) f (argsF x i) i.d) a')] ++ frE (openFr (ps.prog.funs.getD f default) f (argsF x i) i.d) a' ++ frE (callF ps.strict x) a
theorem Dgoes71 (s g c k : Nat) (ps : PS) (ob : Bool) (pre : List T) (x : Fr) (a : FA) (i : Ins) (hx : FrOk x) (hnr : x.nr ≤ 65536) (hpre : pre.length = k * 7) (hk : k < 1048576) (hkd : i.kind = 22 ∨ i.kind = 23 ∨ i.kind = 24 ∨ i.kind = 25) (hp : ProgOk ps.prog) (hpf : ps.prog.funs.length ≤ 1048576) (ha : (hasF i.kind).a = true → 0 ≤ i.a ∧ i.a < (x.nr : Int)) (har : ∀ r ∈ i.args, 0 ≤ r ∧ r < (x.nr : Int)) (hg : i.args.length ≤ 1048576) (hf : (hasF i.kind).f = true → (0 ≤ i.f ∧ i.f.toNat < ps.prog.funs.length) ∧ (i.args.length : Int) = parF ps.prog i.f) (hat : 0 ≤ x.at_ ∧ x.at_ ≤ 4611686018427387904) : ACalls Tryz.prog 70 [pv s, .ep (.slice (some ⟨g, 0, none⟩) (k + 1) c) pre.length, .agg (insCells i)] ([Ent.box s 75 (psD ps ob (.v (.slice (some ⟨g, 0, none⟩) (k + 1) c))), Ent.row (some ⟨g, 0, none⟩) (k + 1) c 116 7 (pre ++ frD x a)] ++ frE x a) (fun t S => ∃ b, t = bv b ∧ JQD s g c k ps ob pre x a i b S) :=
 (Dgoes71_ s g c k ps ob pre x a i hx hnr hpre hk hkd hp hpf ha har hg hf hat).less fun t S' h => by
  unfold JQD
  cases hc : calleeF ps.prog x i with
  | none =>
   rw [hc] at h
   exact ⟨_, h.2, false, h.1, rfl, rfl⟩
  | some f =>
   rw [hc] at h
   dsimp only at h ⊢
   split at h
   ·rename_i h24
    simp only [if_pos h24]
    obtain ⟨h1, g', c', a', h2⟩ := h
    exact ⟨_, h2, true, h1, rfl, g', c', a', rfl⟩
   ·rename_i h24
    simp only [if_neg h24]
    split at h
    ·rename_i hm
     simp only [if_pos hm]
     exact ⟨_, h.2, false, h.1, rfl, rfl⟩
    ·rename_i hm
     simp only [if_neg hm]
     obtain ⟨h1, g', c', a', h2⟩ := h
     exact ⟨_, h2, true, h1, rfl, g', c', a', rfl⟩
set_option maxHeartbeats 16000000 in
theorem DstepC_ (s g c k : Nat) (ps : PS) (ob : Bool) (pre : List T) (x : Fr) (a : FA) (i : Ins) (hx : FrOk x) (hnr : x.nr ≤ 65536) (hpre : pre.length = k * 7) (hk : k < 1048576) (hkd : i.kind = 22 ∨ i.kind = 23 ∨ i.kind = 24 ∨ i.kind = 25) (hp : ProgOk ps.prog) (hpf : ps.prog.funs.length ≤ 1048576) (ha : (hasF i.kind).a = true → 0 ≤ i.a ∧ i.a < (x.nr : Int)) (har : ∀ r ∈ i.args, 0 ≤ r ∧ r < (x.nr : Int)) (hg : i.args.length ≤ 1048576) (hag : (hasF i.kind).args = true → ∀ r ∈ i.args, 0 ≤ r ∧ r < (x.nr : Int)) (hb : (hasF i.kind).b = true → 0 ≤ i.b ∧ i.b < (x.nr : Int)) (hf : (hasF i.kind).f = true → (0 ≤ i.f ∧ i.f.toNat < ps.prog.funs.length) ∧ (i.args.length : Int) = parF ps.prog i.f) (hat : 0 ≤ x.at_ ∧ x.at_ ≤ 4611686018427387904) :
    ACalls Tryz.prog 47 [pv s, .ep (.slice (some ⟨g, 0, none⟩) (k + 1) c) pre.length, .agg (insCells i)] ([Ent.box s 75 (psD ps ob (.v (.slice (some ⟨g, 0, none⟩) (k + 1) c))), Ent.row (some ⟨g, 0, none⟩) (k + 1) c 116 7 (pre ++ frD x a)] ++ frE x a) (fun t S => (okS x.set (readsF i) = false ∧ t = bv false ∧ ([Ent.box s 75 (psD ps ob (.v (.slice (some ⟨g, 0, none⟩) (k + 1) c))), Ent.row (some ⟨g, 0, none⟩) (k + 1) c 116 7 (pre ++ frD x a)] ++ frE x a).Sublist S) ∨ (okS x.set (readsF i) = true ∧ ∃ b S', t = bv b ∧ JQD s g c k ps ob pre x a i b S' ∧ S'.Sublist S)) := by
 have hl3 := hx.t
 have hgl := hg
 refine ACalls.intro Tryz.func47 rfl Tryz.ntmps47 nB rfl fun X w0 => ?_
 refine rs ?_
 refine AWL.boxOp rfl rfl (B rfl) rfl (E rfl rfl) rfl (fun b5 => ?_)
 refine ya ?_
 refine rs (yf fo_98_0 ?_)
 refine yl ag_3 6 ?_
 refine AWL.callT rfl rfl (B rfl) rfl ce_65 (E rfl rfl) (evsC (E rfl rfl) evs0) (Of36 i.kind) ?_
 rintro t16 S16 rfl
 refine ym ?_
 refine Y1 (Yv.extract rfl eV rfl) ?_
 refine Y1 (Yv.extract rfl eV rfl) ?_
 refine AWL.allocOp rfl rfl (B rfl) rfl zc_137 (fun b7 => ?_)
 refine AWL.storeBox (i := 7) rfl rfl rfl ag_137 rfl (E rfl rfl) (E rfl rfl) rfl rfl nB ?_
 refine ya ?_
 refine AW.seq ?_
 refine AW.rseqQ rfl (by kernel_rfl) ?_
 refine qf fo_137_1 ?_
 refine ql ag_4 7 ?_
 refine qm ?_
 refine kT (Yv.move rfl eV) ?_
 refine kT (Yv.nilChkEp rfl (Eg rfl rfl id)) ?_
 refine kT (Yv.fieldEp rfl fo_116_3 (Eg rfl rfl id)) ?_
 refine kT (Yv.loadEp rfl ag_114 (i := 1) rfl (Eg rfl rfl id) (fun hg => fd3)) ?_
 refine kT (Yv.fieldBox rfl fo_98_2 eV) ?_
 refine kT (Yv.loadBox rfl ag_3 (i := 6) rfl (Eg rfl rfl id) rfl) ?_
 refine kT (Yv.indexRow (j := i.a.toNat) rfl ss_114 (i := 3) rfl (Eg rfl rfl id) (Eg rfl rfl id) (fun hg => ⟨(Int.toNat_of_nonneg (ha (by simpa using hg)).1).symm, by have h8 := ha (by simpa using hg); omega⟩)) ?_
 refine kT (Yv.loadEp rfl ag_4 (i := 3) rfl (Eg rfl rfl id) (fun hg => bool_at (by have h9 := ha (by simpa using hg); omega))) ?_
 refine kT (Yv.not rfl (Eg rfl rfl id)) ?_
 refine Q1 (Yv.pickAnd rfl eV (Eg rfl rfl id)) ?_
 refine qm ?_
 refine kF (Yv.fieldBox rfl fo_137_2 eV) ?_
 refine kF (Yv.loadBox rfl ag_4 (i := 7) rfl (Eg rfl rfl id) rfl) ?_
 refine kF (Yv.move rfl (Eg rfl rfl id)) ?_
 refine kT (Yv.move rfl eV) ?_
 refine kT (Yv.nilChkEp rfl (Eg rfl rfl id)) ?_
 refine kT (Yv.fieldEp rfl fo_116_3 (Eg rfl rfl id)) ?_
 refine kT (Yv.loadEp rfl ag_114 (i := 1) rfl (Eg rfl rfl id) (fun hg => fd3)) ?_
 refine kT (Yv.fieldBox rfl fo_98_3 eV) ?_
 refine kT (Yv.loadBox rfl ag_3 (i := 6) rfl (Eg rfl rfl id) rfl) ?_
 refine kT (Yv.indexRow (j := i.b.toNat) rfl ss_114 (i := 3) rfl (Eg rfl rfl id) (Eg rfl rfl id) (fun hg => ⟨(Int.toNat_of_nonneg (hb (ar hg)).1).symm, by have h8 := hb (ar hg); omega⟩)) ?_
 refine kT (Yv.loadEp rfl ag_4 (i := 3) rfl (Eg rfl rfl id) (fun hg => bool_at (by have h9 := hb (ar hg); omega))) ?_
 refine kT (Yv.not rfl (Eg rfl rfl id)) ?_
 refine kF (Yv.pickAnd rfl (Eg rfl rfl id) (Eg rfl rfl id)) ?_
 refine Q1 (Yv.pickOr (t := .const (.bool true)) rfl eV (Eg rfl rfl id)) ?_
 refine AWQ.nil ?_
 refine AW.cond rfl (fun h0t => ?_) (fun h0f => ?_)
 ·try replace h0t := odt h0t
  have hbd := rd_bad (x := x) (i := i) (by simpa using h0t)
  refine ra ?_
  refine AW.ret (retI (.tmp rfl .nil) ?_)
  exact .inl ⟨hbd, rfl, List.sublist_append_left _ _⟩
 try replace h0f := odf h0f
 have hr2 := rdE_ok (x := x) (i := i) (by simpa using h0f)
 refine AW.skip ?_
 refine AW.seq ?_
 refine ra ?_
 refine AW.block ?_
 refine AW.loop (fun (q0 : Nat) => [(0, true, pv s), (1, true, .ep (.slice (some ⟨g, 0, none⟩) (k + 1) c) pre.length), (5, true, pv b5), (7, true, pv b7), (9, true, .v (.int .i64 (q0 : Int)))]) (fun (q0 : Nat) => (([Ent.box s 75 (psD ps ob (.v (.slice (some ⟨g, 0, none⟩) (k + 1) c))), Ent.row (some ⟨g, 0, none⟩) (k + 1) c 116 7 (pre ++ frD x a)] ++ frE x a) ++ [Ent.box b5 98 (insCells i), Ent.box b7 137 (hasCells (hasF i.kind))])) (fun (q0 : Nat) => q0 ≤ i.args.length ∧ ((hasF i.kind).args = true → okS x.set (i.args.take q0) = true)) (fun (q0 : Nat) => i.args.length - q0) 0 ?_ ?_ ?_ ?_
 ·exact ⟨Nat.zero_le _, fun _ => rfl⟩
 ·exact (su (su (su (su (su sn)))))
 ·rfl
 intro q0 ⟨hk0, hka⟩
 refine AW.seq ?_
 refine rs (ym ?_)
 refine yf fo_98_10 ?_
 refine yl ag_35 6 ?_
 refine Y1 (Yv.lenSl rfl so_35 (B rfl) eV len_args) ?_
 refine Y1 (Yv.lss rfl eV eV) ?_
 refine ym ?_
 refine gT (Yv.fieldBox rfl fo_137_3 eV) ?_
 refine gT (Yv.loadBox rfl ag_4 (i := 7) rfl (Eg rfl rfl id) rfl) ?_
 refine Y1 (Yv.pickAnd rfl eV (Eg rfl rfl id)) (nl ?_)
 refine AW.cond rfl (fun h1t => ?_) (fun h1f => ?_)
 ·try replace h1t := odt h1t
  have hk1 : q0 < i.args.length ∧ (hasF i.kind).args = true := by
   have h : (q0 : Int) < (i.args.length : Int) ∧ (hasF i.kind).args = true := by simpa using h1t
   exact ⟨by omega, h.2⟩
  have hkr := hag hk1.2 _ (getD_mem (l := i.args) hk1.1)
  refine AW.skip ?_
  refine AW.seq ?_
  refine AW.block ?_
  refine AW.rseqQ rfl (by kernel_rfl) ?_
  refine qm ?_
  refine Q1 (Yv.nilChkEp rfl eV) ?_
  refine Q1 (Yv.fieldEp rfl fo_116_3 eV) ?_
  refine Q1 (Yv.loadEp rfl ag_114 (i := 1) rfl eV (fun hg => fd3)) ?_
  refine qf fo_98_10 ?_
  refine ql ag_35 6 ?_
  refine qm ?_
  refine Q1 (Yv.indexSl rfl ss_35 (B rfl) eV eV (fun hg => ⟨rfl, (by first | omega | (simp only [len_code, len_funs, len_args, len_data, len_zw]; omega))⟩)) ?_
  refine Q1 (Yv.loadRp rfl ag_3 eV (fun hg => arg_at (by omega))) ?_
  refine Q1 (Yv.indexRow (j := (i.args.getD q0 default).toNat) rfl ss_114 (i := 3) rfl eV eV (fun hg => ⟨(Int.toNat_of_nonneg hkr.1).symm, by omega⟩)) ?_
  refine Q1 (Yv.loadEp rfl ag_4 (i := 3) rfl eV (fun hg => bool_at (by omega))) ?_
  refine Q1 (Yv.not rfl eV) ?_
  refine AWQ.nil ?_
  refine AW.cond rfl (fun h2t => ?_) (fun h2f => ?_)
  ·try replace h2t := odt h2t
   have hbd := rd_arg (x := x) (i := i) hk1.2 hk1.1 (by simpa using h2t)
   refine ra ?_
   refine AW.ret (retI (.tmp rfl .nil) ?_)
   exact .inl ⟨hbd, rfl, List.sublist_append_left _ _⟩
  try replace h2f := odf h2f
  refine AW.skip ?_
  refine AW.region ?_
  refine ym ?_
  refine Y1 (Yv.addN_i64 rfl eV eV (fun hg => by omega)) ?_
  refine ya ?_
  refine ⟨q0 + 1, ⟨by omega, fun h => ?_⟩, by omega, (su (su (su (su (Sub.cons rfl (by simp) Sub.nil))))), rfl⟩
  rw [take_gd hk1.1, okS_app, hka h, okS_one, Bool.true_and]
  simpa using h2f
 try replace h1f := odf h1f
 have hok := rd_all hr2 hk0 hka (by simpa using h1f)
 refine AW.exit ?_
 refine AW.seq ?_
 refine rs (yf fo_98_0 ?_)
 refine yl ag_3 6 (nl ?_)
 refine AW.block ?_
 refine rs (Y1 (Yv.eql rfl eV eV) ?_)
 refine ya ?_
 refine AW.cond rfl (fun h3t => ?_) (fun h3f => ?_)
 ·try replace h3t := odt h3t
  exfalso; omega
 try replace h3f := odf h3f
 refine rs (Y1 (Yv.eql rfl eV eV) ?_)
 refine ya ?_
 refine AW.cond rfl (fun h4t => ?_) (fun h4f => ?_)
 ·try replace h4t := odt h4t
  exfalso; omega
 try replace h4f := odf h4f
 refine rs (Y1 (Yv.eql rfl eV eV) ?_)
 refine ya ?_
 refine AW.cond rfl (fun h5t => ?_) (fun h5f => ?_)
 ·try replace h5t := odt h5t
  exfalso; omega
 try replace h5f := odf h5f
 refine rs (Y1 (Yv.eql rfl eV eV) ?_)
 refine ya ?_
 refine AW.cond rfl (fun h6t => ?_) (fun h6f => ?_)
 ·try replace h6t := odt h6t
  exfalso; omega
 try replace h6f := odf h6f
 refine rs (Y1 (Yv.eql rfl eV eV) ?_)
 refine ya ?_
 refine AW.cond rfl (fun h7t => ?_) (fun h7f => ?_)
 ·try replace h7t := odt h7t
  exfalso; omega
 try replace h7f := odf h7f
 refine rs (Y1 (Yv.eql rfl eV eV) ?_)
 refine ya ?_
 refine AW.cond rfl (fun h8t => ?_) (fun h8f => ?_)
 ·try replace h8t := odt h8t
  exfalso; omega
 try replace h8f := odf h8f
 refine AW.seq ?_
 refine rs (Y1 (Yv.eql rfl eV eV) ?_)
 refine ya ?_
 refine AW.cond rfl (fun h9t => ?_) (fun h9f => ?_)
 ·try replace h9t := odt h9t
  refine AW.skip ?_
  refine AW.cond rfl (fun h10t => ?_) (fun h10f => ?_)
  ·try replace h10t := odt h10t
   refine rs (ym ?_)
   refine ym ?_
   refine Y1 (Yv.loadBoxA rfl ag_98 (i := 6) rfl eV rfl rfl) ?_
   refine C1 rfl ce_70 (E rfl rfl) (evsC (E rfl rfl) (evsC (E rfl rfl) (evsC (E rfl rfl) evs0))) (S1 := ([Ent.box s 75 (psD ps ob (.v (.slice (some ⟨g, 0, none⟩) (k + 1) c))), Ent.row (some ⟨g, 0, none⟩) (k + 1) c 116 7 (pre ++ frD x a)] ++ frE x a)) (S2 := _) rfl (Dgoes71 s g c k ps ob pre x a i hx hnr hpre hk hkd hp hpf ha har hg hf hat) ?_
   rintro t225 S225 ⟨b, rfl, hJ⟩
   refine ya ?_
   refine AW.ret (retI (.tmp rfl .nil) ?_)
   exact .inr ⟨hok, b, _, rfl, hJ, List.sublist_append_left _ _⟩
  try replace h10f := odf h10f
  exfalso; omega
 try replace h9f := odf h9f
 refine rs (Y1 (Yv.eql rfl eV eV) ?_)
 refine ya ?_
 refine AW.cond rfl (fun h11t => ?_) (fun h11f => ?_)
 ·try replace h11t := odt h11t
  refine AW.skip ?_
  refine AW.cond rfl (fun h12t => ?_) (fun h12f => ?_)
  ·try replace h12t := odt h12t
   refine rs (ym ?_)
   refine ym ?_
   refine Y1 (Yv.loadBoxA rfl ag_98 (i := 6) rfl eV rfl rfl) ?_
   refine C1 rfl ce_70 (E rfl rfl) (evsC (E rfl rfl) (evsC (E rfl rfl) (evsC (E rfl rfl) evs0))) (S1 := ([Ent.box s 75 (psD ps ob (.v (.slice (some ⟨g, 0, none⟩) (k + 1) c))), Ent.row (some ⟨g, 0, none⟩) (k + 1) c 116 7 (pre ++ frD x a)] ++ frE x a)) (S2 := _) rfl (Dgoes71 s g c k ps ob pre x a i hx hnr hpre hk hkd hp hpf ha har hg hf hat) ?_
   rintro t225 S225 ⟨b, rfl, hJ⟩
   refine ya ?_
   refine AW.ret (retI (.tmp rfl .nil) ?_)
   exact .inr ⟨hok, b, _, rfl, hJ, List.sublist_append_left _ _⟩
  try replace h12f := odf h12f
  exfalso; omega
 try replace h11f := odf h11f
 refine rs (Y1 (Yv.eql rfl eV eV) ?_)
 refine ya ?_
 refine AW.cond rfl (fun h13t => ?_) (fun h13f => ?_)
 ·try replace h13t := odt h13t
  refine AW.skip ?_
  refine AW.cond rfl (fun h14t => ?_) (fun h14f => ?_)
  ·try replace h14t := odt h14t
   refine rs (ym ?_)
   refine ym ?_
   refine Y1 (Yv.loadBoxA rfl ag_98 (i := 6) rfl eV rfl rfl) ?_
   refine C1 rfl ce_70 (E rfl rfl) (evsC (E rfl rfl) (evsC (E rfl rfl) (evsC (E rfl rfl) evs0))) (S1 := ([Ent.box s 75 (psD ps ob (.v (.slice (some ⟨g, 0, none⟩) (k + 1) c))), Ent.row (some ⟨g, 0, none⟩) (k + 1) c 116 7 (pre ++ frD x a)] ++ frE x a)) (S2 := _) rfl (Dgoes71 s g c k ps ob pre x a i hx hnr hpre hk hkd hp hpf ha har hg hf hat) ?_
   rintro t225 S225 ⟨b, rfl, hJ⟩
   refine ya ?_
   refine AW.ret (retI (.tmp rfl .nil) ?_)
   exact .inr ⟨hok, b, _, rfl, hJ, List.sublist_append_left _ _⟩
  try replace h14f := odf h14f
  exfalso; omega
 try replace h13f := odf h13f
 refine AW.region ?_
 refine Y1 (Yv.eql rfl eV eV) ?_
 refine ya ?_
 refine AW.cond rfl (fun h15t => ?_) (fun h15f => ?_)
 ·try replace h15t := odt h15t
  refine rs (ym ?_)
  refine ym ?_
  refine Y1 (Yv.loadBoxA rfl ag_98 (i := 6) rfl eV rfl rfl) ?_
  refine C1 rfl ce_70 (E rfl rfl) (evsC (E rfl rfl) (evsC (E rfl rfl) (evsC (E rfl rfl) evs0))) (S1 := ([Ent.box s 75 (psD ps ob (.v (.slice (some ⟨g, 0, none⟩) (k + 1) c))), Ent.row (some ⟨g, 0, none⟩) (k + 1) c 116 7 (pre ++ frD x a)] ++ frE x a)) (S2 := _) rfl (Dgoes71 s g c k ps ob pre x a i hx hnr hpre hk hkd hp hpf ha har hg hf hat) ?_
  rintro t225 S225 ⟨b, rfl, hJ⟩
  refine ya ?_
  refine AW.ret (retI (.tmp rfl .nil) ?_)
  exact .inr ⟨hok, b, _, rfl, hJ, List.sublist_append_left _ _⟩
 try replace h15f := odf h15f
 exfalso; omega

end Go.Proofs.YtpgbpdnmjeoeoaaGreat
