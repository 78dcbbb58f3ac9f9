/-
  TEXTS JOINED: Wk12, Wq, Wk13, Wk14, Wk15, Wk16, Wk17, Wk18, Wo, Wk19, Wk20, Wk21, Wk22, Wm, Wk23, Wk24, VFacts, VPlain, VWk1, VSay, VWk2, VFile.
-/
import Derived.Test.YtlfklgganokgdaaRows
import Derived.Test.YtlfklgganokgdaaSc
set_option linter.unusedSimpArgs false
set_option linter.unusedVariables false
set_option linter.unusedSectionVars false
set_option linter.unnecessarySimpa false
namespace Go.Proofs.Ytlfklgganokgdaa
open Go Go.RowKit

set_option maxHeartbeats 8000000 in
theorem open31_ (s : Nat) (x : PS) (fi : Nat) (args : List Wd64) (d : Int) (C : Option Addr) (n c : Nat) (cs : List T) (R K : Nat) (hf : fi < x.prog.funs.length) (hpf : x.prog.funs.length ≤ 1048576) (hR : (x.prog.funs.getD fi default).regs = (R : Int)) (hK : (x.prog.funs.getD fi default).slots = (K : Int)) (hR1 : R ≤ 65536) (hK1 : K ≤ 1048576) (ha : args.length ≤ R) (hn : n ≤ 1048576) :
    ACalls Try.prog 31 [.v (.pointer (some ⟨s, 0, none⟩)), .v (.int .i64 (fi : Int)), .sl 1 (args.map zw), zi d] [.box s 80 (psC x (.v (.slice C n c))), .row C n c 87 7 cs] (fun t S => t = .tup [] ∧ ∃ g c' a, S = [.box s 80 (psC x (.v (.slice (some ⟨g, 0, none⟩) (n + 1) c'))), .row (some ⟨g, 0, none⟩) (n + 1) c' 87 7 (cs ++ frC ⟨fi, 0, R, K, rJ args R args.length, List.replicate K 0#64, sJ R args.length, List.replicate K false, d⟩ a)] ++ frR ⟨fi, 0, R, K, rJ args R args.length, List.replicate K 0#64, sJ R args.length, List.replicate K false, d⟩ a) := by
 have hpR : Pin (zi (x.prog.funs.getD fi default).regs) (.int .i64 (R : Int)) := by rw [hR]; exact pinV
 have hpK : Pin (zi (x.prog.funs.getD fi default).slots) (.int .i64 (K : Int)) := by rw [hK]; exact pinV
 refine ACalls.intro Try.func31 rfl Try.ntmps31 nB rfl fun X w0 => ?_
 refine rs (ym ?_)
 refine Y1 (Yv.nilChk rfl eV) ?_
 refine yf fo_80_0 ?_
 refine yf fo_25_0 ?_
 refine yl ag_22 0 ?_
 refine ym ?_
 refine Y1 (Yv.indexSl rfl ss_22 (B rfl) eV eV (fun hg => ⟨rfl, (by first | omega | (simp only [len_code, len_funs, len_args, len_data, len_zw]; omega))⟩)) ?_
 refine Y1 (Yv.loadRpA rfl ag_51 eV (fun hg => fn_cells (by omega))) ?_
 refine AWL.allocOp rfl rfl (B rfl) rfl zc_51 (fun b8 => ?_)
 refine AWL.storeBox (i := 2) rfl rfl rfl ag_51 rfl (E rfl rfl) (E rfl rfl) rfl rfl nB (nl ?_)
 refine AW.rseqH (HeldCs [(b8, 2, Value.int .i64 (R : Int)), (b8, 3, Value.int .i64 (K : Int))]) rfl (tells_cs (tcB 2 rfl rfl hpR (tcB 2 rfl rfl hpK tc0))) ?_
 refine AWH.tkN (i := 0) rfl (by kernel_rfl) (by kernel_rfl) (by kernel_rfl) rfl rfl (B rfl) (freeMove rfl (E rfl rfl)) ?_
 refine AWH.tkN (i := 1) rfl (by kernel_rfl) (by kernel_rfl) (by kernel_rfl) rfl rfl (B rfl) (freeField rfl fo_51_2 (E rfl rfl)) ?_
 refine T2 (i := 2) rfl (heldB 0 rfl ag_3 (E rfl rfl) rfl (fun _ _ => .v _)) ?_
 refine AWH.tkN (i := 4) rfl (by kernel_rfl) (by kernel_rfl) (by kernel_rfl) rfl rfl (B rfl) (freeField rfl fo_51_3 (E rfl rfl)) ?_
 refine T2 (i := 5) rfl (heldB 1 rfl ag_3 (E rfl rfl) rfl (fun _ _ => .v _)) ?_
 refine AWH.tkN (i := 7) rfl (by kernel_rfl) (by kernel_rfl) (by kernel_rfl) rfl rfl (B rfl) (freeField rfl fo_51_2 (E rfl rfl)) ?_
 refine T2 (i := 8) rfl (heldB 0 rfl ag_3 (E rfl rfl) rfl (fun _ _ => .v _)) ?_
 refine AWH.tkN (i := 10) rfl (by kernel_rfl) (by kernel_rfl) (by kernel_rfl) rfl rfl (B rfl) (freeField rfl fo_51_3 (E rfl rfl)) ?_
 refine T2 (i := 11) rfl (heldB 1 rfl ag_3 (E rfl rfl) rfl (fun _ _ => .v _)) ?_
 refine AWH.tkN (i := 13) rfl (by kernel_rfl) (by kernel_rfl) (by kernel_rfl) rfl rfl (B rfl) (freeMove rfl (E rfl rfl)) ?_
 refine AWH.node (ι := Option Addr × Option Addr × Option Addr × Option Addr × Nat) 0 (bA 17 131071) (fun ⟨A23, A26, A29, A32, b9⟩ => [(9, true, pv b9), (0, true, pv s), (1, true, zv fi), (2, true, .sl 1 (args.map zw)), (3, true, zi d), (8, true, pv b8)]) (fun ⟨A23, A26, A29, A32, b9⟩ => (.row A23 R R 39 1 ((rJ args R 0).map zw) :: .row A26 K K 39 1 ((List.replicate K 0#64).map zw) :: .row A29 R R 4 1 ((sJ R 0).map bv) :: .row A32 K K 4 1 ((List.replicate K false).map bv) :: .box b9 87 (frC ⟨fi, 0, R, K, rJ args R 0, List.replicate K 0#64, sJ R 0, List.replicate K false, d⟩ ⟨A23, A26, A29, A32⟩) :: .box s 80 (psC x (.v (.slice C n c))) :: .row C n c 87 7 cs :: .box b8 51 (fnCells (x.prog.funs.getD fi default)) :: [])) (fun ⟨A23, A26, A29, A32, b9⟩ => True) ?_ ?_
 ·rintro ⟨A23, A26, A29, A32, b9⟩ _
  refine AWH.done (by kernel_rfl) ?_
  refine AW.dropAt 7 ?_
  refine AW.seq ?_
  refine rs (ym ?_)
  refine Y1 (Yv.lenSl rfl so_84 (B rfl) eV len_zw) ?_
  refine ym (nl ?_)
  refine AW.block ?_
  refine AW.loop (fun (j : Nat) => [(0, true, pv s), (9, true, pv b9), (35, true, .sl 1 (args.map zw)), (36, true, .v (.int .i64 (args.length : Int))), (37, true, .v (.int .i64 (j : Int)))]) (fun (j : Nat) => [.row A23 R R 39 1 ((rJ args R j).map zw), .row A26 K K 39 1 ((List.replicate K 0#64).map zw), .row A29 R R 4 1 ((sJ R j).map bv), .row A32 K K 4 1 ((List.replicate K false).map bv), .box b9 87 (frC ⟨fi, 0, R, K, rJ args R 0, List.replicate K 0#64, sJ R 0, List.replicate K false, d⟩ ⟨A23, A26, A29, A32⟩), .box s 80 (psC x (.v (.slice C n c))), .row C n c 87 7 cs]) (fun (j : Nat) => j ≤ args.length) (fun (j : Nat) => args.length - j) 0 ?_ ?_ ?_ ?_
  ·exact Nat.zero_le _
  ·exact (su (su (su (su (su sn)))))
  ·rfl
  intro j hinv
  refine rs (Y1 (Yv.lss rfl eV eV) (nl ?_))
  refine AW.seq ?_
  refine AW.cond rfl (fun h0t => ?_) (fun h0f => ?_)
  ·try replace h0t := odt h0t
   refine AW.skip ?_
   refine AW.seq ?_
   refine AW.block ?_
   refine rs (ym ?_)
   refine Y1 (Yv.indexSl rfl ss_84 (B rfl) eV eV (fun hg => ⟨rfl, (by first | omega | (simp only [len_code, len_funs, len_args, len_data, len_zw]; omega))⟩)) ?_
   refine Y1 (Yv.loadRp rfl ag_39 eV (fun hg => word_at (by omega))) ?_
   refine Y1 (Yv.assign rfl eV) ?_
   refine ya ?_
   refine AW.regionH (HeldCs [(b9, 2, Value.slice A23 R R), (b9, 4, Value.slice A29 R R)]) rfl (tells_cs (tcB 4 rfl rfl pinV (tcB 4 rfl rfl pinV tc0))) ?_
   refine T2 (i := 0) rfl (heldAll (freeField rfl fo_87_2 (E rfl rfl))) ?_
   refine T2 (i := 1) rfl (heldB 0 rfl ag_84 (E rfl rfl) rfl (fun _ _ => .v _)) ?_
   refine T2 (i := 2) rfl (heldAll (freeMove rfl (E rfl rfl))) ?_
   refine T2 (i := 3) rfl (heldAll (freeField rfl fo_87_4 (E rfl rfl))) ?_
   refine T2 (i := 4) rfl (heldB 1 rfl ag_85 (E rfl rfl) rfl (fun _ _ => .v _)) ?_
   refine T2 (i := 5) rfl (heldAll (freeMove rfl (E rfl rfl))) ?_
   refine AWH.one (i := 6) (by kernel_rfl) rfl ?_
   refine ym ?_
   refine AWL.nil (kpH (tcB 4 rfl rfl pinV (tcB 4 rfl rfl pinV tc0)) ?_)
   refine AWH.one (i := 7) (by kernel_rfl) rfl ?_
   refine Y1 (Yv.indexRow rfl ss_84 (i := 0) rfl eV eV (fun hg => ⟨rfl, by omega⟩)) ?_
   refine AWL.nil (kpH (tcB 4 rfl rfl pinV (tcB 4 rfl rfl pinV tc0)) ?_)
   refine AWH.one (i := 8) (by kernel_rfl) rfl ?_
   refine AWL.storeEp1 (i := 0) rfl rfl rfl ag_39 rfl (E rfl rfl) (E rfl rfl) rfl rfl (by first | (rw [List.length_map, rj_len (by omega) ha]; omega) | (rw [List.length_map, sj_len (by omega)]; omega)) ?_
   refine AWL.nil (kpH (tcB 4 rfl rfl pinV (tcB 4 rfl rfl pinV tc0)) ?_)
   refine AWH.one (i := 9) (by kernel_rfl) rfl ?_
   refine Y1 (Yv.indexRow rfl ss_85 (i := 2) rfl eV eV (fun hg => ⟨rfl, by omega⟩)) ?_
   refine AWL.nil (kpH (tcB 4 rfl rfl pinV (tcB 4 rfl rfl pinV tc0)) ?_)
   refine AWH.one (i := 10) (by kernel_rfl) rfl ?_
   refine AWL.storeEp1 (i := 2) rfl rfl rfl ag_4 rfl (E rfl rfl) (E rfl rfl) rfl rfl (by first | (rw [List.length_map, rj_len (by omega) ha]; omega) | (rw [List.length_map, sj_len (by omega)]; omega)) ?_
   refine AWL.nil (kpH (tcB 4 rfl rfl pinV (tcB 4 rfl rfl pinV tc0)) ?_)
   refine AWH.done (by kernel_rfl) ?_
   refine AW.region ?_
   refine Y1 (Yv.addN_i64 rfl eV eV (fun hg => by omega)) ?_
   refine ym (nl ?_)
   refine ⟨j + 1, by omega, by omega, (su (su (su (su (Sub.cons rfl (by simp) Sub.nil))))), ?_⟩
   rw [← rj_succ (show j < args.length by omega) ha, ← sj_succ (show j < R by omega)]
   rfl
  try replace h0f := odf h0f
  obtain rfl : j = args.length := by omega
  refine AW.exit ?_
  refine AW.regionP rfl ?_
  refine T1 (i := 0) rfl (freeMove rfl (E rfl rfl)) ?_
  refine T1 (i := 1) rfl (freeMove rfl (E rfl rfl)) ?_
  refine T1 (i := 2) rfl (freeNil rfl (E rfl rfl)) ?_
  refine T1 (i := 3) rfl (freeField rfl fo_80_6 (E rfl rfl)) ?_
  refine AWP.two (i := 4) (j := 5) (by kernel_rfl) rfl rfl ?_ ?_
  ·refine yl ag_78 5 (nl ?_)
   refine p1 5 ?_
   refine Y1 (Yv.loadBoxA rfl ag_87 (i := 4) rfl eV rfl rfl) (nl ?_)
   refine p1 6 ?_
   refine AWL.buildSliceE rfl rfl (B rfl) rfl el_78 (B rfl) rfl (evsC (E rfl rfl) evs0) nB rfl rfl (nl ?_)
   refine p1 7 ?_
   refine AWL.appendRow (i := 6) rfl rfl (B rfl) rfl el_78 (B rfl) rfl (E rfl rfl) (SrcT.sl so_78 (B rfl) (E rfl rfl) rfl) (by unfold maxLen; omega) (by omega) (fun A59 c59 => ?_)
   refine nl ?_
   refine p1 8 ?_
   refine Y1 (Yv.nilChk rfl eV) (nl ?_)
   refine p1 9 ?_
   refine yf fo_80_6 (nl ?_)
   refine p1 10 ?_
   refine AWL.storeBox (i := 5) rfl rfl rfl ag_78 rfl (E rfl rfl) (E rfl rfl) rfl rfl nB ?_
   refine AWL.rowSome 6 rfl (Nat.mul_pos (Nat.succ_pos _) (by decide)) (fun g59 hg59 => ?_)
   subst hg59
   refine AWL.dropAt 4 ?_
   refine AWL.perm (S' := [.box s 80 (psC x (.v (.slice (some ⟨g59, 0, none⟩) (n + 1) c59))), .row (some ⟨g59, 0, none⟩) (n + 1) c59 87 7 (cs ++ frC ⟨fi, 0, R, K, rJ args R args.length, List.replicate K 0#64, sJ R args.length, List.replicate K false, d⟩ ⟨A23, A26, A29, A32⟩), .row A23 R R 39 1 ((rJ args R args.length).map zw), .row A26 K K 39 1 ((List.replicate K 0#64).map zw), .row A29 R R 4 1 ((sJ R args.length).map bv), .row A32 K K 4 1 ((List.replicate K false).map bv)]) (List.perm_append_comm (l₁ := ([.box s 80 (psC x (.v (.slice (some ⟨g59, 0, none⟩) (n + 1) c59))), .row (some ⟨g59, 0, none⟩) (n + 1) c59 87 7 (cs ++ frC ⟨fi, 0, R, K, rJ args R args.length, List.replicate K 0#64, sJ R args.length, List.replicate K false, d⟩ ⟨A23, A26, A29, A32⟩)] : St)) (l₂ := [.row A23 R R 39 1 ((rJ args R args.length).map zw), .row A26 K K 39 1 ((List.replicate K 0#64).map zw), .row A29 R R 4 1 ((sJ R args.length).map bv), .row A32 K K 4 1 ((List.replicate K false).map bv)])) (nl ?_)
   refine AWP.done (by kernel_rfl) ?_
   refine retN .nil ?_
   exact ⟨rfl, g59, c59, ⟨A23, A26, A29, A32⟩, rfl⟩
  refine Y1 (Yv.loadBoxA rfl ag_87 (i := 4) rfl eV rfl rfl) (nl ?_)
  refine AWP.two (i := 4) (j := 6) (by kernel_rfl) rfl rfl ?_ ?_
  ·refine yl ag_78 5 (nl ?_)
   refine p1 6 ?_
   refine AWL.buildSliceE rfl rfl (B rfl) rfl el_78 (B rfl) rfl (evsC (E rfl rfl) evs0) nB rfl rfl (nl ?_)
   refine p1 7 ?_
   refine AWL.appendRow (i := 6) rfl rfl (B rfl) rfl el_78 (B rfl) rfl (E rfl rfl) (SrcT.sl so_78 (B rfl) (E rfl rfl) rfl) (by unfold maxLen; omega) (by omega) (fun A59 c59 => ?_)
   refine nl ?_
   refine p1 8 ?_
   refine Y1 (Yv.nilChk rfl eV) (nl ?_)
   refine p1 9 ?_
   refine yf fo_80_6 (nl ?_)
   refine p1 10 ?_
   refine AWL.storeBox (i := 5) rfl rfl rfl ag_78 rfl (E rfl rfl) (E rfl rfl) rfl rfl nB ?_
   refine AWL.rowSome 6 rfl (Nat.mul_pos (Nat.succ_pos _) (by decide)) (fun g59 hg59 => ?_)
   subst hg59
   refine AWL.dropAt 4 ?_
   refine AWL.perm (S' := [.box s 80 (psC x (.v (.slice (some ⟨g59, 0, none⟩) (n + 1) c59))), .row (some ⟨g59, 0, none⟩) (n + 1) c59 87 7 (cs ++ frC ⟨fi, 0, R, K, rJ args R args.length, List.replicate K 0#64, sJ R args.length, List.replicate K false, d⟩ ⟨A23, A26, A29, A32⟩), .row A23 R R 39 1 ((rJ args R args.length).map zw), .row A26 K K 39 1 ((List.replicate K 0#64).map zw), .row A29 R R 4 1 ((sJ R args.length).map bv), .row A32 K K 4 1 ((List.replicate K false).map bv)]) (List.perm_append_comm (l₁ := ([.box s 80 (psC x (.v (.slice (some ⟨g59, 0, none⟩) (n + 1) c59))), .row (some ⟨g59, 0, none⟩) (n + 1) c59 87 7 (cs ++ frC ⟨fi, 0, R, K, rJ args R args.length, List.replicate K 0#64, sJ R args.length, List.replicate K false, d⟩ ⟨A23, A26, A29, A32⟩)] : St)) (l₂ := [.row A23 R R 39 1 ((rJ args R args.length).map zw), .row A26 K K 39 1 ((List.replicate K 0#64).map zw), .row A29 R R 4 1 ((sJ R args.length).map bv), .row A32 K K 4 1 ((List.replicate K false).map bv)])) (nl ?_)
   refine AWP.done (by kernel_rfl) ?_
   refine retN .nil ?_
   exact ⟨rfl, g59, c59, ⟨A23, A26, A29, A32⟩, rfl⟩
  refine AWL.buildSliceE rfl rfl (B rfl) rfl el_78 (B rfl) rfl (evsC (E rfl rfl) evs0) nB rfl rfl (nl ?_)
  refine p1 4 ?_
  refine yl ag_78 5 (nl ?_)
  refine p1 7 ?_
  refine AWL.appendRow (i := 6) rfl rfl (B rfl) rfl el_78 (B rfl) rfl (E rfl rfl) (SrcT.sl so_78 (B rfl) (E rfl rfl) rfl) (by unfold maxLen; omega) (by omega) (fun A59 c59 => ?_)
  refine nl ?_
  refine p1 8 ?_
  refine Y1 (Yv.nilChk rfl eV) (nl ?_)
  refine p1 9 ?_
  refine yf fo_80_6 (nl ?_)
  refine p1 10 ?_
  refine AWL.storeBox (i := 5) rfl rfl rfl ag_78 rfl (E rfl rfl) (E rfl rfl) rfl rfl nB ?_
  refine AWL.rowSome 6 rfl (Nat.mul_pos (Nat.succ_pos _) (by decide)) (fun g59 hg59 => ?_)
  subst hg59
  refine AWL.dropAt 4 ?_
  refine AWL.perm (S' := [.box s 80 (psC x (.v (.slice (some ⟨g59, 0, none⟩) (n + 1) c59))), .row (some ⟨g59, 0, none⟩) (n + 1) c59 87 7 (cs ++ frC ⟨fi, 0, R, K, rJ args R args.length, List.replicate K 0#64, sJ R args.length, List.replicate K false, d⟩ ⟨A23, A26, A29, A32⟩), .row A23 R R 39 1 ((rJ args R args.length).map zw), .row A26 K K 39 1 ((List.replicate K 0#64).map zw), .row A29 R R 4 1 ((sJ R args.length).map bv), .row A32 K K 4 1 ((List.replicate K false).map bv)]) (List.perm_append_comm (l₁ := ([.box s 80 (psC x (.v (.slice (some ⟨g59, 0, none⟩) (n + 1) c59))), .row (some ⟨g59, 0, none⟩) (n + 1) c59 87 7 (cs ++ frC ⟨fi, 0, R, K, rJ args R args.length, List.replicate K 0#64, sJ R args.length, List.replicate K false, d⟩ ⟨A23, A26, A29, A32⟩)] : St)) (l₂ := [.row A23 R R 39 1 ((rJ args R args.length).map zw), .row A26 K K 39 1 ((List.replicate K 0#64).map zw), .row A29 R R 4 1 ((sJ R args.length).map bv), .row A32 K K 4 1 ((List.replicate K false).map bv)])) (nl ?_)
  refine AWP.done (by kernel_rfl) ?_
  refine retN .nil ?_
  exact ⟨rfl, g59, c59, ⟨A23, A26, A29, A32⟩, rfl⟩
 intro n33_
 refine AWH.node (ι := Option Addr × Option Addr × Option Addr × Option Addr × Nat) 1 (bA 17 65535) (fun ⟨A23, A26, A29, A32, b9⟩ => [(34, true, .agg (frC ⟨fi, 0, R, K, rJ args R 0, List.replicate K 0#64, sJ R 0, List.replicate K false, d⟩ ⟨A23, A26, A29, A32⟩)), (9, true, pv b9), (0, true, pv s), (1, true, zv fi), (2, true, .sl 1 (args.map zw)), (3, true, zi d), (8, true, pv b8)]) (fun ⟨A23, A26, A29, A32, b9⟩ => (.row A23 R R 39 1 ((rJ args R 0).map zw) :: .row A26 K K 39 1 ((List.replicate K 0#64).map zw) :: .row A29 R R 4 1 ((sJ R 0).map bv) :: .row A32 K K 4 1 ((List.replicate K false).map bv) :: .box b9 87 [zi 0, zi 0, nilT, nilT, nilT, nilT, zi 0] :: .box s 80 (psC x (.v (.slice C n c))) :: .row C n c 87 7 cs :: .box b8 51 (fnCells (x.prog.funs.getD fi default)) :: [])) (fun ⟨A23, A26, A29, A32, b9⟩ => True) ?_ ?_
 ·rintro ⟨A23, A26, A29, A32, b9⟩ _
  refine AWH.one (i := 16) (by kernel_rfl) rfl ?_ 
  refine AWL.storeBox (i := 4) rfl rfl rfl ag_87 rfl (E rfl rfl) (E rfl rfl) rfl rfl nB ?_
  refine AWL.nil (kpH (tcB 7 rfl rfl hpR (tcB 7 rfl rfl hpK tc0)) ?_)
  exact th (n33_ (A23, A26, A29, A32, b9) trivial) (su (su (su (su (su (su sn))))))
 intro n32_
 refine AWH.node (ι := Option Addr × Option Addr × Option Addr × Option Addr) 2 (bA 17 32767) (fun ⟨A23, A26, A29, A32⟩ => [(34, true, .agg (frC ⟨fi, 0, R, K, rJ args R 0, List.replicate K 0#64, sJ R 0, List.replicate K false, d⟩ ⟨A23, A26, A29, A32⟩)), (0, true, pv s), (1, true, zv fi), (2, true, .sl 1 (args.map zw)), (3, true, zi d), (8, true, pv b8)]) (fun ⟨A23, A26, A29, A32⟩ => (.row A23 R R 39 1 ((rJ args R 0).map zw) :: .row A26 K K 39 1 ((List.replicate K 0#64).map zw) :: .row A29 R R 4 1 ((sJ R 0).map bv) :: .row A32 K K 4 1 ((List.replicate K false).map bv) :: .box s 80 (psC x (.v (.slice C n c))) :: .row C n c 87 7 cs :: .box b8 51 (fnCells (x.prog.funs.getD fi default)) :: [])) (fun ⟨A23, A26, A29, A32⟩ => True) ?_ ?_
 ·rintro ⟨A23, A26, A29, A32⟩ _
  refine AWH.one (i := 15) (by kernel_rfl) rfl ?_ 
  refine AWL.allocOp rfl rfl (B rfl) rfl zc_87 (fun b9 => ?_)
  refine pi4 ?_
  refine AWL.nil (kpH (tcB 7 rfl rfl hpR (tcB 7 rfl rfl hpK tc0)) ?_)
  exact th (n32_ (A23, A26, A29, A32, b9) trivial) (su (su (su (su (su (su (su sn)))))))
 intro n31_
 refine AWH.node (ι := Option Addr × Option Addr × Option Addr × Option Addr × Nat) 2 (bA 17 49151) (fun ⟨A23, A26, A29, A32, b9⟩ => [(20, true, zi fi), (23, true, .v (.slice A23 R R)), (26, true, .v (.slice A26 K K)), (29, true, .v (.slice A29 R R)), (32, true, .v (.slice A32 K K)), (33, true, zi d), (9, true, pv b9), (0, true, pv s), (1, true, zv fi), (2, true, .sl 1 (args.map zw)), (3, true, zi d), (8, true, pv b8)]) (fun ⟨A23, A26, A29, A32, b9⟩ => (.row A23 R R 39 1 ((rJ args R 0).map zw) :: .row A26 K K 39 1 ((List.replicate K 0#64).map zw) :: .row A29 R R 4 1 ((sJ R 0).map bv) :: .row A32 K K 4 1 ((List.replicate K false).map bv) :: .box b9 87 [zi 0, zi 0, nilT, nilT, nilT, nilT, zi 0] :: .box s 80 (psC x (.v (.slice C n c))) :: .row C n c 87 7 cs :: .box b8 51 (fnCells (x.prog.funs.getD fi default)) :: [])) (fun ⟨A23, A26, A29, A32, b9⟩ => True) ?_ ?_
 ·rintro ⟨A23, A26, A29, A32, b9⟩ _
  refine AWH.one (i := 14) (by kernel_rfl) rfl ?_ 
  refine Y1 (Yv.buildS rfl sh_87 (evpC eV (evpC eV (evpC eV (evpC eV (evpC eV (evpC eV evp0)))))) (fun _ => rfl)) ?_
  refine AWL.nil (kpH (tcB 7 rfl rfl hpR (tcB 7 rfl rfl hpK tc0)) ?_)
  exact th (n32_ (A23, A26, A29, A32, b9) trivial) (su (su (su (su (su (su (su sn)))))))
 intro n30_
 refine AWH.node (ι := Option Addr × Option Addr × Option Addr × Option Addr) 3 (bA 17 16383) (fun ⟨A23, A26, A29, A32⟩ => [(20, true, zi fi), (23, true, .v (.slice A23 R R)), (26, true, .v (.slice A26 K K)), (29, true, .v (.slice A29 R R)), (32, true, .v (.slice A32 K K)), (33, true, zi d), (0, true, pv s), (1, true, zv fi), (2, true, .sl 1 (args.map zw)), (3, true, zi d), (8, true, pv b8)]) (fun ⟨A23, A26, A29, A32⟩ => (.row A23 R R 39 1 ((rJ args R 0).map zw) :: .row A26 K K 39 1 ((List.replicate K 0#64).map zw) :: .row A29 R R 4 1 ((sJ R 0).map bv) :: .row A32 K K 4 1 ((List.replicate K false).map bv) :: .box s 80 (psC x (.v (.slice C n c))) :: .row C n c 87 7 cs :: .box b8 51 (fnCells (x.prog.funs.getD fi default)) :: [])) (fun ⟨A23, A26, A29, A32⟩ => True) ?_ ?_
 ·rintro ⟨A23, A26, A29, A32⟩ _
  refine AWH.two (i := 14) (j := 15) (by kernel_rfl) rfl rfl ?_ ?_ 
  ·refine Y1 (Yv.buildS rfl sh_87 (evpC eV (evpC eV (evpC eV (evpC eV (evpC eV (evpC eV evp0)))))) (fun _ => rfl)) ?_
   refine AWL.nil (kpH (tcB 6 rfl rfl hpR (tcB 6 rfl rfl hpK tc0)) ?_)
   exact th (n31_ (A23, A26, A29, A32) trivial) (su (su (su (su (su (su sn))))))
  refine AWL.allocOp rfl rfl (B rfl) rfl zc_87 (fun b9 => ?_)
  refine pi4 ?_
  refine AWL.nil (kpH (tcB 7 rfl rfl hpR (tcB 7 rfl rfl hpK tc0)) ?_)
  exact th (n30_ (A23, A26, A29, A32, b9) trivial) (su (su (su (su (su (su (su (su (su (su (su (su sn))))))))))))
 intro n29_
 refine AWH.node (ι := Option Addr × Option Addr × Option Addr × Nat) 3 (bA 17 45055) (fun ⟨A23, A26, A29, b9⟩ => [(20, true, zi fi), (23, true, .v (.slice A23 R R)), (26, true, .v (.slice A26 K K)), (29, true, .v (.slice A29 R R)), (31, true, zv K), (33, true, zi d), (9, true, pv b9), (0, true, pv s), (1, true, zv fi), (2, true, .sl 1 (args.map zw)), (3, true, zi d), (8, true, pv b8)]) (fun ⟨A23, A26, A29, b9⟩ => (.row A23 R R 39 1 ((rJ args R 0).map zw) :: .row A26 K K 39 1 ((List.replicate K 0#64).map zw) :: .row A29 R R 4 1 ((sJ R 0).map bv) :: .box b9 87 [zi 0, zi 0, nilT, nilT, nilT, nilT, zi 0] :: .box s 80 (psC x (.v (.slice C n c))) :: .row C n c 87 7 cs :: .box b8 51 (fnCells (x.prog.funs.getD fi default)) :: [])) (fun ⟨A23, A26, A29, b9⟩ => True) ?_ ?_
 ·rintro ⟨A23, A26, A29, b9⟩ _
  refine AWH.one (i := 12) (by kernel_rfl) rfl ?_ 
  refine AWL.makeRow (n := K) (c := K) rfl rfl (B rfl) rfl el_85 (E rfl rfl) (E rfl rfl) (Nat.le_refl _) (by omega) (by unfold maxLen; omega) (fun A32 => ?_)
  refine AWL.eqLast (zero_b K) ?_
  refine pi3 ?_
  refine AWL.nil (kpH (tcB 7 rfl rfl hpR (tcB 7 rfl rfl hpK tc0)) ?_)
  exact th (n30_ (A23, A26, A29, A32, b9) trivial) (su (su (su (su (su (su (su (su (su (su (su (su sn))))))))))))
 intro n28_
 refine AWH.node (ι := Option Addr × Option Addr × Option Addr × Nat) 3 (bA 17 48639) (fun ⟨A23, A26, A32, b9⟩ => [(20, true, zi fi), (23, true, .v (.slice A23 R R)), (26, true, .v (.slice A26 K K)), (28, true, zv R), (32, true, .v (.slice A32 K K)), (33, true, zi d), (9, true, pv b9), (0, true, pv s), (1, true, zv fi), (2, true, .sl 1 (args.map zw)), (3, true, zi d), (8, true, pv b8)]) (fun ⟨A23, A26, A32, b9⟩ => (.row A23 R R 39 1 ((rJ args R 0).map zw) :: .row A26 K K 39 1 ((List.replicate K 0#64).map zw) :: .row A32 K K 4 1 ((List.replicate K false).map bv) :: .box b9 87 [zi 0, zi 0, nilT, nilT, nilT, nilT, zi 0] :: .box s 80 (psC x (.v (.slice C n c))) :: .row C n c 87 7 cs :: .box b8 51 (fnCells (x.prog.funs.getD fi default)) :: [])) (fun ⟨A23, A26, A32, b9⟩ => True) ?_ ?_
 ·rintro ⟨A23, A26, A32, b9⟩ _
  refine AWH.one (i := 9) (by kernel_rfl) rfl ?_ 
  refine AWL.makeRow (n := R) (c := R) rfl rfl (B rfl) rfl el_85 (E rfl rfl) (E rfl rfl) (Nat.le_refl _) (by omega) (by unfold maxLen; omega) (fun A29 => ?_)
  refine AWL.eqLast (zero_s R) ?_
  refine pi2 ?_
  refine AWL.nil (kpH (tcB 7 rfl rfl hpR (tcB 7 rfl rfl hpK tc0)) ?_)
  exact th (n30_ (A23, A26, A29, A32, b9) trivial) (su (su (su (su (su (su (su (su (su (su (su (su sn))))))))))))
 intro n26_
 refine AWH.node (ι := Option Addr × Option Addr × Option Addr × Nat) 3 (bA 17 49087) (fun ⟨A23, A29, A32, b9⟩ => [(20, true, zi fi), (23, true, .v (.slice A23 R R)), (25, true, zv K), (29, true, .v (.slice A29 R R)), (32, true, .v (.slice A32 K K)), (33, true, zi d), (9, true, pv b9), (0, true, pv s), (1, true, zv fi), (2, true, .sl 1 (args.map zw)), (3, true, zi d), (8, true, pv b8)]) (fun ⟨A23, A29, A32, b9⟩ => (.row A23 R R 39 1 ((rJ args R 0).map zw) :: .row A29 R R 4 1 ((sJ R 0).map bv) :: .row A32 K K 4 1 ((List.replicate K false).map bv) :: .box b9 87 [zi 0, zi 0, nilT, nilT, nilT, nilT, zi 0] :: .box s 80 (psC x (.v (.slice C n c))) :: .row C n c 87 7 cs :: .box b8 51 (fnCells (x.prog.funs.getD fi default)) :: [])) (fun ⟨A23, A29, A32, b9⟩ => True) ?_ ?_
 ·rintro ⟨A23, A29, A32, b9⟩ _
  refine AWH.one (i := 6) (by kernel_rfl) rfl ?_ 
  refine AWL.makeRow (n := K) (c := K) rfl rfl (B rfl) rfl el_84 (E rfl rfl) (E rfl rfl) (Nat.le_refl _) (by omega) (by unfold maxLen; omega) (fun A26 => ?_)
  refine AWL.eqLast (mk_zero K) ?_
  refine pi1 ?_
  refine AWL.nil (kpH (tcB 7 rfl rfl hpR (tcB 7 rfl rfl hpK tc0)) ?_)
  exact th (n30_ (A23, A26, A29, A32, b9) trivial) (su (su (su (su (su (su (su (su (su (su (su (su sn))))))))))))
 intro n22_
 refine AWH.node (ι := Option Addr × Option Addr × Option Addr × Nat) 3 (bA 17 49143) (fun ⟨A26, A29, A32, b9⟩ => [(20, true, zi fi), (22, true, zv R), (26, true, .v (.slice A26 K K)), (29, true, .v (.slice A29 R R)), (32, true, .v (.slice A32 K K)), (33, true, zi d), (9, true, pv b9), (0, true, pv s), (1, true, zv fi), (2, true, .sl 1 (args.map zw)), (3, true, zi d), (8, true, pv b8)]) (fun ⟨A26, A29, A32, b9⟩ => (.row A26 K K 39 1 ((List.replicate K 0#64).map zw) :: .row A29 R R 4 1 ((sJ R 0).map bv) :: .row A32 K K 4 1 ((List.replicate K false).map bv) :: .box b9 87 [zi 0, zi 0, nilT, nilT, nilT, nilT, zi 0] :: .box s 80 (psC x (.v (.slice C n c))) :: .row C n c 87 7 cs :: .box b8 51 (fnCells (x.prog.funs.getD fi default)) :: [])) (fun ⟨A26, A29, A32, b9⟩ => True) ?_ ?_
 ·rintro ⟨A26, A29, A32, b9⟩ _
  refine AWH.one (i := 3) (by kernel_rfl) rfl ?_ 
  refine AWL.makeRow (n := R) (c := R) rfl rfl (B rfl) rfl el_84 (E rfl rfl) (E rfl rfl) (Nat.le_refl _) (by omega) (by unfold maxLen; omega) (fun A23 => ?_)
  refine AWL.eqLast (zero_r args R) ?_
  refine pi0 ?_
  refine AWL.nil (kpH (tcB 7 rfl rfl hpR (tcB 7 rfl rfl hpK tc0)) ?_)
  exact th (n30_ (A23, A26, A29, A32, b9) trivial) (su (su (su (su (su (su (su (su (su (su (su (su sn))))))))))))
 intro n14_
 refine AWH.node (ι := Option Addr × Option Addr × Option Addr) 4 (bA 17 12287) (fun ⟨A23, A26, A29⟩ => [(20, true, zi fi), (23, true, .v (.slice A23 R R)), (26, true, .v (.slice A26 K K)), (29, true, .v (.slice A29 R R)), (31, true, zv K), (33, true, zi d), (0, true, pv s), (1, true, zv fi), (2, true, .sl 1 (args.map zw)), (3, true, zi d), (8, true, pv b8)]) (fun ⟨A23, A26, A29⟩ => (.row A23 R R 39 1 ((rJ args R 0).map zw) :: .row A26 K K 39 1 ((List.replicate K 0#64).map zw) :: .row A29 R R 4 1 ((sJ R 0).map bv) :: .box s 80 (psC x (.v (.slice C n c))) :: .row C n c 87 7 cs :: .box b8 51 (fnCells (x.prog.funs.getD fi default)) :: [])) (fun ⟨A23, A26, A29⟩ => True) ?_ ?_
 ·rintro ⟨A23, A26, A29⟩ _
  refine AWH.two (i := 12) (j := 15) (by kernel_rfl) rfl rfl ?_ ?_ 
  ·refine AWL.makeRow (n := K) (c := K) rfl rfl (B rfl) rfl el_85 (E rfl rfl) (E rfl rfl) (Nat.le_refl _) (by omega) (by unfold maxLen; omega) (fun A32 => ?_)
   refine AWL.eqLast (zero_b K) ?_
   refine pi3 ?_
   refine AWL.nil (kpH (tcB 6 rfl rfl hpR (tcB 6 rfl rfl hpK tc0)) ?_)
   exact th (n29_ (A23, A26, A29, A32) trivial) (su (su (su (su (su (su (su (su (su (su (su sn)))))))))))
  refine AWL.allocOp rfl rfl (B rfl) rfl zc_87 (fun b9 => ?_)
  refine pi3 ?_
  refine AWL.nil (kpH (tcB 6 rfl rfl hpR (tcB 6 rfl rfl hpK tc0)) ?_)
  exact th (n28_ (A23, A26, A29, b9) trivial) (su (su (su (su (su (su (su (su (su (su (su (su sn))))))))))))
 intro n27_
 refine AWH.node (ι := Option Addr × Option Addr × Option Addr) 4 (bA 17 15871) (fun ⟨A23, A26, A32⟩ => [(20, true, zi fi), (23, true, .v (.slice A23 R R)), (26, true, .v (.slice A26 K K)), (28, true, zv R), (32, true, .v (.slice A32 K K)), (33, true, zi d), (0, true, pv s), (1, true, zv fi), (2, true, .sl 1 (args.map zw)), (3, true, zi d), (8, true, pv b8)]) (fun ⟨A23, A26, A32⟩ => (.row A23 R R 39 1 ((rJ args R 0).map zw) :: .row A26 K K 39 1 ((List.replicate K 0#64).map zw) :: .row A32 K K 4 1 ((List.replicate K false).map bv) :: .box s 80 (psC x (.v (.slice C n c))) :: .row C n c 87 7 cs :: .box b8 51 (fnCells (x.prog.funs.getD fi default)) :: [])) (fun ⟨A23, A26, A32⟩ => True) ?_ ?_
 ·rintro ⟨A23, A26, A32⟩ _
  refine AWH.two (i := 9) (j := 15) (by kernel_rfl) rfl rfl ?_ ?_ 
  ·refine AWL.makeRow (n := R) (c := R) rfl rfl (B rfl) rfl el_85 (E rfl rfl) (E rfl rfl) (Nat.le_refl _) (by omega) (by unfold maxLen; omega) (fun A29 => ?_)
   refine AWL.eqLast (zero_s R) ?_
   refine pi2 ?_
   refine AWL.nil (kpH (tcB 6 rfl rfl hpR (tcB 6 rfl rfl hpK tc0)) ?_)
   exact th (n29_ (A23, A26, A29, A32) trivial) (su (su (su (su (su (su (su (su (su (su (su sn)))))))))))
  refine AWL.allocOp rfl rfl (B rfl) rfl zc_87 (fun b9 => ?_)
  refine pi3 ?_
  refine AWL.nil (kpH (tcB 6 rfl rfl hpR (tcB 6 rfl rfl hpK tc0)) ?_)
  exact th (n26_ (A23, A26, A32, b9) trivial) (su (su (su (su (su (su (su (su (su (su (su (su sn))))))))))))
 intro n25_
 refine AWH.node (ι := Option Addr × Option Addr × Nat) 4 (bA 17 44543) (fun ⟨A23, A26, b9⟩ => [(20, true, zi fi), (23, true, .v (.slice A23 R R)), (26, true, .v (.slice A26 K K)), (28, true, zv R), (31, true, zv K), (33, true, zi d), (9, true, pv b9), (0, true, pv s), (1, true, zv fi), (2, true, .sl 1 (args.map zw)), (3, true, zi d), (8, true, pv b8)]) (fun ⟨A23, A26, b9⟩ => (.row A23 R R 39 1 ((rJ args R 0).map zw) :: .row A26 K K 39 1 ((List.replicate K 0#64).map zw) :: .box b9 87 [zi 0, zi 0, nilT, nilT, nilT, nilT, zi 0] :: .box s 80 (psC x (.v (.slice C n c))) :: .row C n c 87 7 cs :: .box b8 51 (fnCells (x.prog.funs.getD fi default)) :: [])) (fun ⟨A23, A26, b9⟩ => True) ?_ ?_
 ·rintro ⟨A23, A26, b9⟩ _
  refine AWH.two (i := 9) (j := 12) (by kernel_rfl) rfl rfl ?_ ?_ 
  ·refine AWL.makeRow (n := R) (c := R) rfl rfl (B rfl) rfl el_85 (E rfl rfl) (E rfl rfl) (Nat.le_refl _) (by omega) (by unfold maxLen; omega) (fun A29 => ?_)
   refine AWL.eqLast (zero_s R) ?_
   refine pi2 ?_
   refine AWL.nil (kpH (tcB 6 rfl rfl hpR (tcB 6 rfl rfl hpK tc0)) ?_)
   exact th (n28_ (A23, A26, A29, b9) trivial) (su (su (su (su (su (su (su (su (su (su (su (su sn))))))))))))
  refine AWL.makeRow (n := K) (c := K) rfl rfl (B rfl) rfl el_85 (E rfl rfl) (E rfl rfl) (Nat.le_refl _) (by omega) (by unfold maxLen; omega) (fun A32 => ?_)
  refine AWL.eqLast (zero_b K) ?_
  refine pi2 ?_
  refine AWL.nil (kpH (tcB 6 rfl rfl hpR (tcB 6 rfl rfl hpK tc0)) ?_)
  exact th (n26_ (A23, A26, A32, b9) trivial) (su (su (su (su (su (su (su (su (su (su (su (su sn))))))))))))
 intro n24_
 refine AWH.node (ι := Option Addr × Option Addr × Option Addr) 4 (bA 17 16319) (fun ⟨A23, A29, A32⟩ => [(20, true, zi fi), (23, true, .v (.slice A23 R R)), (25, true, zv K), (29, true, .v (.slice A29 R R)), (32, true, .v (.slice A32 K K)), (33, true, zi d), (0, true, pv s), (1, true, zv fi), (2, true, .sl 1 (args.map zw)), (3, true, zi d), (8, true, pv b8)]) (fun ⟨A23, A29, A32⟩ => (.row A23 R R 39 1 ((rJ args R 0).map zw) :: .row A29 R R 4 1 ((sJ R 0).map bv) :: .row A32 K K 4 1 ((List.replicate K false).map bv) :: .box s 80 (psC x (.v (.slice C n c))) :: .row C n c 87 7 cs :: .box b8 51 (fnCells (x.prog.funs.getD fi default)) :: [])) (fun ⟨A23, A29, A32⟩ => True) ?_ ?_
 ·rintro ⟨A23, A29, A32⟩ _
  refine AWH.two (i := 6) (j := 15) (by kernel_rfl) rfl rfl ?_ ?_ 
  ·refine AWL.makeRow (n := K) (c := K) rfl rfl (B rfl) rfl el_84 (E rfl rfl) (E rfl rfl) (Nat.le_refl _) (by omega) (by unfold maxLen; omega) (fun A26 => ?_)
   refine AWL.eqLast (mk_zero K) ?_
   refine pi1 ?_
   refine AWL.nil (kpH (tcB 6 rfl rfl hpR (tcB 6 rfl rfl hpK tc0)) ?_)
   exact th (n29_ (A23, A26, A29, A32) trivial) (su (su (su (su (su (su (su (su (su (su (su sn)))))))))))
  refine AWL.allocOp rfl rfl (B rfl) rfl zc_87 (fun b9 => ?_)
  refine pi3 ?_
  refine AWL.nil (kpH (tcB 6 rfl rfl hpR (tcB 6 rfl rfl hpK tc0)) ?_)
  exact th (n22_ (A23, A29, A32, b9) trivial) (su (su (su (su (su (su (su (su (su (su (su (su sn))))))))))))
 intro n21_
 refine AWH.node (ι := Option Addr × Option Addr × Nat) 4 (bA 17 44991) (fun ⟨A23, A29, b9⟩ => [(20, true, zi fi), (23, true, .v (.slice A23 R R)), (25, true, zv K), (29, true, .v (.slice A29 R R)), (31, true, zv K), (33, true, zi d), (9, true, pv b9), (0, true, pv s), (1, true, zv fi), (2, true, .sl 1 (args.map zw)), (3, true, zi d), (8, true, pv b8)]) (fun ⟨A23, A29, b9⟩ => (.row A23 R R 39 1 ((rJ args R 0).map zw) :: .row A29 R R 4 1 ((sJ R 0).map bv) :: .box b9 87 [zi 0, zi 0, nilT, nilT, nilT, nilT, zi 0] :: .box s 80 (psC x (.v (.slice C n c))) :: .row C n c 87 7 cs :: .box b8 51 (fnCells (x.prog.funs.getD fi default)) :: [])) (fun ⟨A23, A29, b9⟩ => True) ?_ ?_
 ·rintro ⟨A23, A29, b9⟩ _
  refine AWH.two (i := 6) (j := 12) (by kernel_rfl) rfl rfl ?_ ?_ 
  ·refine AWL.makeRow (n := K) (c := K) rfl rfl (B rfl) rfl el_84 (E rfl rfl) (E rfl rfl) (Nat.le_refl _) (by omega) (by unfold maxLen; omega) (fun A26 => ?_)
   refine AWL.eqLast (mk_zero K) ?_
   refine pi1 ?_
   refine AWL.nil (kpH (tcB 6 rfl rfl hpR (tcB 6 rfl rfl hpK tc0)) ?_)
   exact th (n28_ (A23, A26, A29, b9) trivial) (su (su (su (su (su (su (su (su (su (su (su (su sn))))))))))))
  refine AWL.makeRow (n := K) (c := K) rfl rfl (B rfl) rfl el_85 (E rfl rfl) (E rfl rfl) (Nat.le_refl _) (by omega) (by unfold maxLen; omega) (fun A32 => ?_)
  refine AWL.eqLast (zero_b K) ?_
  refine pi2 ?_
  refine AWL.nil (kpH (tcB 6 rfl rfl hpR (tcB 6 rfl rfl hpK tc0)) ?_)
  exact th (n22_ (A23, A29, A32, b9) trivial) (su (su (su (su (su (su (su (su (su (su (su (su sn))))))))))))
 intro n20_
 refine AWH.node (ι := Option Addr × Option Addr × Nat) 4 (bA 17 48575) (fun ⟨A23, A32, b9⟩ => [(20, true, zi fi), (23, true, .v (.slice A23 R R)), (25, true, zv K), (28, true, zv R), (32, true, .v (.slice A32 K K)), (33, true, zi d), (9, true, pv b9), (0, true, pv s), (1, true, zv fi), (2, true, .sl 1 (args.map zw)), (3, true, zi d), (8, true, pv b8)]) (fun ⟨A23, A32, b9⟩ => (.row A23 R R 39 1 ((rJ args R 0).map zw) :: .row A32 K K 4 1 ((List.replicate K false).map bv) :: .box b9 87 [zi 0, zi 0, nilT, nilT, nilT, nilT, zi 0] :: .box s 80 (psC x (.v (.slice C n c))) :: .row C n c 87 7 cs :: .box b8 51 (fnCells (x.prog.funs.getD fi default)) :: [])) (fun ⟨A23, A32, b9⟩ => True) ?_ ?_
 ·rintro ⟨A23, A32, b9⟩ _
  refine AWH.two (i := 6) (j := 9) (by kernel_rfl) rfl rfl ?_ ?_ 
  ·refine AWL.makeRow (n := K) (c := K) rfl rfl (B rfl) rfl el_84 (E rfl rfl) (E rfl rfl) (Nat.le_refl _) (by omega) (by unfold maxLen; omega) (fun A26 => ?_)
   refine AWL.eqLast (mk_zero K) ?_
   refine pi1 ?_
   refine AWL.nil (kpH (tcB 6 rfl rfl hpR (tcB 6 rfl rfl hpK tc0)) ?_)
   exact th (n26_ (A23, A26, A32, b9) trivial) (su (su (su (su (su (su (su (su (su (su (su (su sn))))))))))))
  refine AWL.makeRow (n := R) (c := R) rfl rfl (B rfl) rfl el_85 (E rfl rfl) (E rfl rfl) (Nat.le_refl _) (by omega) (by unfold maxLen; omega) (fun A29 => ?_)
  refine AWL.eqLast (zero_s R) ?_
  refine pi1 ?_
  refine AWL.nil (kpH (tcB 6 rfl rfl hpR (tcB 6 rfl rfl hpK tc0)) ?_)
  exact th (n22_ (A23, A29, A32, b9) trivial) (su (su (su (su (su (su (su (su (su (su (su (su sn))))))))))))
 intro n18_
 refine AWH.node (ι := Option Addr × Option Addr × Option Addr) 4 (bA 17 16375) (fun ⟨A26, A29, A32⟩ => [(20, true, zi fi), (22, true, zv R), (26, true, .v (.slice A26 K K)), (29, true, .v (.slice A29 R R)), (32, true, .v (.slice A32 K K)), (33, true, zi d), (0, true, pv s), (1, true, zv fi), (2, true, .sl 1 (args.map zw)), (3, true, zi d), (8, true, pv b8)]) (fun ⟨A26, A29, A32⟩ => (.row A26 K K 39 1 ((List.replicate K 0#64).map zw) :: .row A29 R R 4 1 ((sJ R 0).map bv) :: .row A32 K K 4 1 ((List.replicate K false).map bv) :: .box s 80 (psC x (.v (.slice C n c))) :: .row C n c 87 7 cs :: .box b8 51 (fnCells (x.prog.funs.getD fi default)) :: [])) (fun ⟨A26, A29, A32⟩ => True) ?_ ?_
 ·rintro ⟨A26, A29, A32⟩ _
  refine AWH.two (i := 3) (j := 15) (by kernel_rfl) rfl rfl ?_ ?_ 
  ·refine AWL.makeRow (n := R) (c := R) rfl rfl (B rfl) rfl el_84 (E rfl rfl) (E rfl rfl) (Nat.le_refl _) (by omega) (by unfold maxLen; omega) (fun A23 => ?_)
   refine AWL.eqLast (zero_r args R) ?_
   refine pi0 ?_
   refine AWL.nil (kpH (tcB 6 rfl rfl hpR (tcB 6 rfl rfl hpK tc0)) ?_)
   exact th (n29_ (A23, A26, A29, A32) trivial) (su (su (su (su (su (su (su (su (su (su (su sn)))))))))))
  refine AWL.allocOp rfl rfl (B rfl) rfl zc_87 (fun b9 => ?_)
  refine pi3 ?_
  refine AWL.nil (kpH (tcB 6 rfl rfl hpR (tcB 6 rfl rfl hpK tc0)) ?_)
  exact th (n14_ (A26, A29, A32, b9) trivial) (su (su (su (su (su (su (su (su (su (su (su (su sn))))))))))))
 intro n13_
 refine AWH.node (ι := Option Addr × Option Addr × Nat) 4 (bA 17 45047) (fun ⟨A26, A29, b9⟩ => [(20, true, zi fi), (22, true, zv R), (26, true, .v (.slice A26 K K)), (29, true, .v (.slice A29 R R)), (31, true, zv K), (33, true, zi d), (9, true, pv b9), (0, true, pv s), (1, true, zv fi), (2, true, .sl 1 (args.map zw)), (3, true, zi d), (8, true, pv b8)]) (fun ⟨A26, A29, b9⟩ => (.row A26 K K 39 1 ((List.replicate K 0#64).map zw) :: .row A29 R R 4 1 ((sJ R 0).map bv) :: .box b9 87 [zi 0, zi 0, nilT, nilT, nilT, nilT, zi 0] :: .box s 80 (psC x (.v (.slice C n c))) :: .row C n c 87 7 cs :: .box b8 51 (fnCells (x.prog.funs.getD fi default)) :: [])) (fun ⟨A26, A29, b9⟩ => True) ?_ ?_
 ·rintro ⟨A26, A29, b9⟩ _
  refine AWH.two (i := 3) (j := 12) (by kernel_rfl) rfl rfl ?_ ?_ 
  ·refine AWL.makeRow (n := R) (c := R) rfl rfl (B rfl) rfl el_84 (E rfl rfl) (E rfl rfl) (Nat.le_refl _) (by omega) (by unfold maxLen; omega) (fun A23 => ?_)
   refine AWL.eqLast (zero_r args R) ?_
   refine pi0 ?_
   refine AWL.nil (kpH (tcB 6 rfl rfl hpR (tcB 6 rfl rfl hpK tc0)) ?_)
   exact th (n28_ (A23, A26, A29, b9) trivial) (su (su (su (su (su (su (su (su (su (su (su (su sn))))))))))))
  refine AWL.makeRow (n := K) (c := K) rfl rfl (B rfl) rfl el_85 (E rfl rfl) (E rfl rfl) (Nat.le_refl _) (by omega) (by unfold maxLen; omega) (fun A32 => ?_)
  refine AWL.eqLast (zero_b K) ?_
  refine pi2 ?_
  refine AWL.nil (kpH (tcB 6 rfl rfl hpR (tcB 6 rfl rfl hpK tc0)) ?_)
  exact th (n14_ (A26, A29, A32, b9) trivial) (su (su (su (su (su (su (su (su (su (su (su (su sn))))))))))))
 intro n12_
 refine AWH.node (ι := Option Addr × Option Addr × Nat) 4 (bA 17 48631) (fun ⟨A26, A32, b9⟩ => [(20, true, zi fi), (22, true, zv R), (26, true, .v (.slice A26 K K)), (28, true, zv R), (32, true, .v (.slice A32 K K)), (33, true, zi d), (9, true, pv b9), (0, true, pv s), (1, true, zv fi), (2, true, .sl 1 (args.map zw)), (3, true, zi d), (8, true, pv b8)]) (fun ⟨A26, A32, b9⟩ => (.row A26 K K 39 1 ((List.replicate K 0#64).map zw) :: .row A32 K K 4 1 ((List.replicate K false).map bv) :: .box b9 87 [zi 0, zi 0, nilT, nilT, nilT, nilT, zi 0] :: .box s 80 (psC x (.v (.slice C n c))) :: .row C n c 87 7 cs :: .box b8 51 (fnCells (x.prog.funs.getD fi default)) :: [])) (fun ⟨A26, A32, b9⟩ => True) ?_ ?_
 ·rintro ⟨A26, A32, b9⟩ _
  refine AWH.two (i := 3) (j := 9) (by kernel_rfl) rfl rfl ?_ ?_ 
  ·refine AWL.makeRow (n := R) (c := R) rfl rfl (B rfl) rfl el_84 (E rfl rfl) (E rfl rfl) (Nat.le_refl _) (by omega) (by unfold maxLen; omega) (fun A23 => ?_)
   refine AWL.eqLast (zero_r args R) ?_
   refine pi0 ?_
   refine AWL.nil (kpH (tcB 6 rfl rfl hpR (tcB 6 rfl rfl hpK tc0)) ?_)
   exact th (n26_ (A23, A26, A32, b9) trivial) (su (su (su (su (su (su (su (su (su (su (su (su sn))))))))))))
  refine AWL.makeRow (n := R) (c := R) rfl rfl (B rfl) rfl el_85 (E rfl rfl) (E rfl rfl) (Nat.le_refl _) (by omega) (by unfold maxLen; omega) (fun A29 => ?_)
  refine AWL.eqLast (zero_s R) ?_
  refine pi1 ?_
  refine AWL.nil (kpH (tcB 6 rfl rfl hpR (tcB 6 rfl rfl hpK tc0)) ?_)
  exact th (n14_ (A26, A29, A32, b9) trivial) (su (su (su (su (su (su (su (su (su (su (su (su sn))))))))))))
 intro n10_
 refine AWH.node (ι := Option Addr × Option Addr × Nat) 4 (bA 17 49079) (fun ⟨A29, A32, b9⟩ => [(20, true, zi fi), (22, true, zv R), (25, true, zv K), (29, true, .v (.slice A29 R R)), (32, true, .v (.slice A32 K K)), (33, true, zi d), (9, true, pv b9), (0, true, pv s), (1, true, zv fi), (2, true, .sl 1 (args.map zw)), (3, true, zi d), (8, true, pv b8)]) (fun ⟨A29, A32, b9⟩ => (.row A29 R R 4 1 ((sJ R 0).map bv) :: .row A32 K K 4 1 ((List.replicate K false).map bv) :: .box b9 87 [zi 0, zi 0, nilT, nilT, nilT, nilT, zi 0] :: .box s 80 (psC x (.v (.slice C n c))) :: .row C n c 87 7 cs :: .box b8 51 (fnCells (x.prog.funs.getD fi default)) :: [])) (fun ⟨A29, A32, b9⟩ => True) ?_ ?_
 ·rintro ⟨A29, A32, b9⟩ _
  refine AWH.two (i := 3) (j := 6) (by kernel_rfl) rfl rfl ?_ ?_ 
  ·refine AWL.makeRow (n := R) (c := R) rfl rfl (B rfl) rfl el_84 (E rfl rfl) (E rfl rfl) (Nat.le_refl _) (by omega) (by unfold maxLen; omega) (fun A23 => ?_)
   refine AWL.eqLast (zero_r args R) ?_
   refine pi0 ?_
   refine AWL.nil (kpH (tcB 6 rfl rfl hpR (tcB 6 rfl rfl hpK tc0)) ?_)
   exact th (n22_ (A23, A29, A32, b9) trivial) (su (su (su (su (su (su (su (su (su (su (su (su sn))))))))))))
  refine AWL.makeRow (n := K) (c := K) rfl rfl (B rfl) rfl el_84 (E rfl rfl) (E rfl rfl) (Nat.le_refl _) (by omega) (by unfold maxLen; omega) (fun A26 => ?_)
  refine AWL.eqLast (mk_zero K) ?_
  refine pi0 ?_
  refine AWL.nil (kpH (tcB 6 rfl rfl hpR (tcB 6 rfl rfl hpK tc0)) ?_)
  exact th (n14_ (A26, A29, A32, b9) trivial) (su (su (su (su (su (su (su (su (su (su (su (su sn))))))))))))
 intro n6_
 refine AWH.node (ι := Option Addr × Option Addr) 5 (bA 17 11775) (fun ⟨A23, A26⟩ => [(20, true, zi fi), (23, true, .v (.slice A23 R R)), (26, true, .v (.slice A26 K K)), (28, true, zv R), (31, true, zv K), (33, true, zi d), (0, true, pv s), (1, true, zv fi), (2, true, .sl 1 (args.map zw)), (3, true, zi d), (8, true, pv b8)]) (fun ⟨A23, A26⟩ => (.row A23 R R 39 1 ((rJ args R 0).map zw) :: .row A26 K K 39 1 ((List.replicate K 0#64).map zw) :: .box s 80 (psC x (.v (.slice C n c))) :: .row C n c 87 7 cs :: .box b8 51 (fnCells (x.prog.funs.getD fi default)) :: [])) (fun ⟨A23, A26⟩ => True) ?_ ?_
 ·rintro ⟨A23, A26⟩ _
  refine AWH.three (i := 9) (j := 12) (k := 15) (by kernel_rfl) rfl rfl rfl ?_ ?_ ?_ 
  ·refine AWL.makeRow (n := R) (c := R) rfl rfl (B rfl) rfl el_85 (E rfl rfl) (E rfl rfl) (Nat.le_refl _) (by omega) (by unfold maxLen; omega) (fun A29 => ?_)
   refine AWL.eqLast (zero_s R) ?_
   refine pi2 ?_
   refine AWL.nil (kpH (tcB 5 rfl rfl hpR (tcB 5 rfl rfl hpK tc0)) ?_)
   exact th (n27_ (A23, A26, A29) trivial) (su (su (su (su (su (su (su (su (su (su (su sn)))))))))))
  ·refine AWL.makeRow (n := K) (c := K) rfl rfl (B rfl) rfl el_85 (E rfl rfl) (E rfl rfl) (Nat.le_refl _) (by omega) (by unfold maxLen; omega) (fun A32 => ?_)
   refine AWL.eqLast (zero_b K) ?_
   refine pi2 ?_
   refine AWL.nil (kpH (tcB 5 rfl rfl hpR (tcB 5 rfl rfl hpK tc0)) ?_)
   exact th (n25_ (A23, A26, A32) trivial) (su (su (su (su (su (su (su (su (su (su (su sn)))))))))))
  refine AWL.allocOp rfl rfl (B rfl) rfl zc_87 (fun b9 => ?_)
  refine pi2 ?_
  refine AWL.nil (kpH (tcB 5 rfl rfl hpR (tcB 5 rfl rfl hpK tc0)) ?_)
  exact th (n24_ (A23, A26, b9) trivial) (su (su (su (su (su (su (su (su (su (su (su (su sn))))))))))))
 intro n23_
 refine AWH.node (ι := Option Addr × Option Addr) 5 (bA 17 12223) (fun ⟨A23, A29⟩ => [(20, true, zi fi), (23, true, .v (.slice A23 R R)), (25, true, zv K), (29, true, .v (.slice A29 R R)), (31, true, zv K), (33, true, zi d), (0, true, pv s), (1, true, zv fi), (2, true, .sl 1 (args.map zw)), (3, true, zi d), (8, true, pv b8)]) (fun ⟨A23, A29⟩ => (.row A23 R R 39 1 ((rJ args R 0).map zw) :: .row A29 R R 4 1 ((sJ R 0).map bv) :: .box s 80 (psC x (.v (.slice C n c))) :: .row C n c 87 7 cs :: .box b8 51 (fnCells (x.prog.funs.getD fi default)) :: [])) (fun ⟨A23, A29⟩ => True) ?_ ?_
 ·rintro ⟨A23, A29⟩ _
  refine AWH.three (i := 6) (j := 12) (k := 15) (by kernel_rfl) rfl rfl rfl ?_ ?_ ?_ 
  ·refine AWL.makeRow (n := K) (c := K) rfl rfl (B rfl) rfl el_84 (E rfl rfl) (E rfl rfl) (Nat.le_refl _) (by omega) (by unfold maxLen; omega) (fun A26 => ?_)
   refine AWL.eqLast (mk_zero K) ?_
   refine pi1 ?_
   refine AWL.nil (kpH (tcB 5 rfl rfl hpR (tcB 5 rfl rfl hpK tc0)) ?_)
   exact th (n27_ (A23, A26, A29) trivial) (su (su (su (su (su (su (su (su (su (su (su sn)))))))))))
  ·refine AWL.makeRow (n := K) (c := K) rfl rfl (B rfl) rfl el_85 (E rfl rfl) (E rfl rfl) (Nat.le_refl _) (by omega) (by unfold maxLen; omega) (fun A32 => ?_)
   refine AWL.eqLast (zero_b K) ?_
   refine pi2 ?_
   refine AWL.nil (kpH (tcB 5 rfl rfl hpR (tcB 5 rfl rfl hpK tc0)) ?_)
   exact th (n21_ (A23, A29, A32) trivial) (su (su (su (su (su (su (su (su (su (su (su sn)))))))))))
  refine AWL.allocOp rfl rfl (B rfl) rfl zc_87 (fun b9 => ?_)
  refine pi2 ?_
  refine AWL.nil (kpH (tcB 5 rfl rfl hpR (tcB 5 rfl rfl hpK tc0)) ?_)
  exact th (n20_ (A23, A29, b9) trivial) (su (su (su (su (su (su (su (su (su (su (su (su sn))))))))))))
 intro n19_
 refine AWH.node (ι := Option Addr × Option Addr) 5 (bA 17 15807) (fun ⟨A23, A32⟩ => [(20, true, zi fi), (23, true, .v (.slice A23 R R)), (25, true, zv K), (28, true, zv R), (32, true, .v (.slice A32 K K)), (33, true, zi d), (0, true, pv s), (1, true, zv fi), (2, true, .sl 1 (args.map zw)), (3, true, zi d), (8, true, pv b8)]) (fun ⟨A23, A32⟩ => (.row A23 R R 39 1 ((rJ args R 0).map zw) :: .row A32 K K 4 1 ((List.replicate K false).map bv) :: .box s 80 (psC x (.v (.slice C n c))) :: .row C n c 87 7 cs :: .box b8 51 (fnCells (x.prog.funs.getD fi default)) :: [])) (fun ⟨A23, A32⟩ => True) ?_ ?_
 ·rintro ⟨A23, A32⟩ _
  refine AWH.three (i := 6) (j := 9) (k := 15) (by kernel_rfl) rfl rfl rfl ?_ ?_ ?_ 
  ·refine AWL.makeRow (n := K) (c := K) rfl rfl (B rfl) rfl el_84 (E rfl rfl) (E rfl rfl) (Nat.le_refl _) (by omega) (by unfold maxLen; omega) (fun A26 => ?_)
   refine AWL.eqLast (mk_zero K) ?_
   refine pi1 ?_
   refine AWL.nil (kpH (tcB 5 rfl rfl hpR (tcB 5 rfl rfl hpK tc0)) ?_)
   exact th (n25_ (A23, A26, A32) trivial) (su (su (su (su (su (su (su (su (su (su (su sn)))))))))))
  ·refine AWL.makeRow (n := R) (c := R) rfl rfl (B rfl) rfl el_85 (E rfl rfl) (E rfl rfl) (Nat.le_refl _) (by omega) (by unfold maxLen; omega) (fun A29 => ?_)
   refine AWL.eqLast (zero_s R) ?_
   refine pi1 ?_
   refine AWL.nil (kpH (tcB 5 rfl rfl hpR (tcB 5 rfl rfl hpK tc0)) ?_)
   exact th (n21_ (A23, A29, A32) trivial) (su (su (su (su (su (su (su (su (su (su (su sn)))))))))))
  refine AWL.allocOp rfl rfl (B rfl) rfl zc_87 (fun b9 => ?_)
  refine pi2 ?_
  refine AWL.nil (kpH (tcB 5 rfl rfl hpR (tcB 5 rfl rfl hpK tc0)) ?_)
  exact th (n18_ (A23, A32, b9) trivial) (su (su (su (su (su (su (su (su (su (su (su (su sn))))))))))))
 intro n17_
 refine AWH.node (ι := Option Addr × Nat) 5 (bA 17 44479) (fun ⟨A23, b9⟩ => [(20, true, zi fi), (23, true, .v (.slice A23 R R)), (25, true, zv K), (28, true, zv R), (31, true, zv K), (33, true, zi d), (9, true, pv b9), (0, true, pv s), (1, true, zv fi), (2, true, .sl 1 (args.map zw)), (3, true, zi d), (8, true, pv b8)]) (fun ⟨A23, b9⟩ => (.row A23 R R 39 1 ((rJ args R 0).map zw) :: .box b9 87 [zi 0, zi 0, nilT, nilT, nilT, nilT, zi 0] :: .box s 80 (psC x (.v (.slice C n c))) :: .row C n c 87 7 cs :: .box b8 51 (fnCells (x.prog.funs.getD fi default)) :: [])) (fun ⟨A23, b9⟩ => True) ?_ ?_
 ·rintro ⟨A23, b9⟩ _
  refine AWH.three (i := 6) (j := 9) (k := 12) (by kernel_rfl) rfl rfl rfl ?_ ?_ ?_ 
  ·refine AWL.makeRow (n := K) (c := K) rfl rfl (B rfl) rfl el_84 (E rfl rfl) (E rfl rfl) (Nat.le_refl _) (by omega) (by unfold maxLen; omega) (fun A26 => ?_)
   refine AWL.eqLast (mk_zero K) ?_
   refine pi1 ?_
   refine AWL.nil (kpH (tcB 5 rfl rfl hpR (tcB 5 rfl rfl hpK tc0)) ?_)
   exact th (n24_ (A23, A26, b9) trivial) (su (su (su (su (su (su (su (su (su (su (su (su sn))))))))))))
  ·refine AWL.makeRow (n := R) (c := R) rfl rfl (B rfl) rfl el_85 (E rfl rfl) (E rfl rfl) (Nat.le_refl _) (by omega) (by unfold maxLen; omega) (fun A29 => ?_)
   refine AWL.eqLast (zero_s R) ?_
   refine pi1 ?_
   refine AWL.nil (kpH (tcB 5 rfl rfl hpR (tcB 5 rfl rfl hpK tc0)) ?_)
   exact th (n20_ (A23, A29, b9) trivial) (su (su (su (su (su (su (su (su (su (su (su (su sn))))))))))))
  refine AWL.makeRow (n := K) (c := K) rfl rfl (B rfl) rfl el_85 (E rfl rfl) (E rfl rfl) (Nat.le_refl _) (by omega) (by unfold maxLen; omega) (fun A32 => ?_)
  refine AWL.eqLast (zero_b K) ?_
  refine pi1 ?_
  refine AWL.nil (kpH (tcB 5 rfl rfl hpR (tcB 5 rfl rfl hpK tc0)) ?_)
  exact th (n18_ (A23, A32, b9) trivial) (su (su (su (su (su (su (su (su (su (su (su (su sn))))))))))))
 intro n16_
 refine AWH.node (ι := Option Addr × Option Addr) 5 (bA 17 12279) (fun ⟨A26, A29⟩ => [(20, true, zi fi), (22, true, zv R), (26, true, .v (.slice A26 K K)), (29, true, .v (.slice A29 R R)), (31, true, zv K), (33, true, zi d), (0, true, pv s), (1, true, zv fi), (2, true, .sl 1 (args.map zw)), (3, true, zi d), (8, true, pv b8)]) (fun ⟨A26, A29⟩ => (.row A26 K K 39 1 ((List.replicate K 0#64).map zw) :: .row A29 R R 4 1 ((sJ R 0).map bv) :: .box s 80 (psC x (.v (.slice C n c))) :: .row C n c 87 7 cs :: .box b8 51 (fnCells (x.prog.funs.getD fi default)) :: [])) (fun ⟨A26, A29⟩ => True) ?_ ?_
 ·rintro ⟨A26, A29⟩ _
  refine AWH.three (i := 3) (j := 12) (k := 15) (by kernel_rfl) rfl rfl rfl ?_ ?_ ?_ 
  ·refine AWL.makeRow (n := R) (c := R) rfl rfl (B rfl) rfl el_84 (E rfl rfl) (E rfl rfl) (Nat.le_refl _) (by omega) (by unfold maxLen; omega) (fun A23 => ?_)
   refine AWL.eqLast (zero_r args R) ?_
   refine pi0 ?_
   refine AWL.nil (kpH (tcB 5 rfl rfl hpR (tcB 5 rfl rfl hpK tc0)) ?_)
   exact th (n27_ (A23, A26, A29) trivial) (su (su (su (su (su (su (su (su (su (su (su sn)))))))))))
  ·refine AWL.makeRow (n := K) (c := K) rfl rfl (B rfl) rfl el_85 (E rfl rfl) (E rfl rfl) (Nat.le_refl _) (by omega) (by unfold maxLen; omega) (fun A32 => ?_)
   refine AWL.eqLast (zero_b K) ?_
   refine pi2 ?_
   refine AWL.nil (kpH (tcB 5 rfl rfl hpR (tcB 5 rfl rfl hpK tc0)) ?_)
   exact th (n13_ (A26, A29, A32) trivial) (su (su (su (su (su (su (su (su (su (su (su sn)))))))))))
  refine AWL.allocOp rfl rfl (B rfl) rfl zc_87 (fun b9 => ?_)
  refine pi2 ?_
  refine AWL.nil (kpH (tcB 5 rfl rfl hpR (tcB 5 rfl rfl hpK tc0)) ?_)
  exact th (n12_ (A26, A29, b9) trivial) (su (su (su (su (su (su (su (su (su (su (su (su sn))))))))))))
 intro n11_
 refine AWH.node (ι := Option Addr × Option Addr) 5 (bA 17 15863) (fun ⟨A26, A32⟩ => [(20, true, zi fi), (22, true, zv R), (26, true, .v (.slice A26 K K)), (28, true, zv R), (32, true, .v (.slice A32 K K)), (33, true, zi d), (0, true, pv s), (1, true, zv fi), (2, true, .sl 1 (args.map zw)), (3, true, zi d), (8, true, pv b8)]) (fun ⟨A26, A32⟩ => (.row A26 K K 39 1 ((List.replicate K 0#64).map zw) :: .row A32 K K 4 1 ((List.replicate K false).map bv) :: .box s 80 (psC x (.v (.slice C n c))) :: .row C n c 87 7 cs :: .box b8 51 (fnCells (x.prog.funs.getD fi default)) :: [])) (fun ⟨A26, A32⟩ => True) ?_ ?_
 ·rintro ⟨A26, A32⟩ _
  refine AWH.three (i := 3) (j := 9) (k := 15) (by kernel_rfl) rfl rfl rfl ?_ ?_ ?_ 
  ·refine AWL.makeRow (n := R) (c := R) rfl rfl (B rfl) rfl el_84 (E rfl rfl) (E rfl rfl) (Nat.le_refl _) (by omega) (by unfold maxLen; omega) (fun A23 => ?_)
   refine AWL.eqLast (zero_r args R) ?_
   refine pi0 ?_
   refine AWL.nil (kpH (tcB 5 rfl rfl hpR (tcB 5 rfl rfl hpK tc0)) ?_)
   exact th (n25_ (A23, A26, A32) trivial) (su (su (su (su (su (su (su (su (su (su (su sn)))))))))))
  ·refine AWL.makeRow (n := R) (c := R) rfl rfl (B rfl) rfl el_85 (E rfl rfl) (E rfl rfl) (Nat.le_refl _) (by omega) (by unfold maxLen; omega) (fun A29 => ?_)
   refine AWL.eqLast (zero_s R) ?_
   refine pi1 ?_
   refine AWL.nil (kpH (tcB 5 rfl rfl hpR (tcB 5 rfl rfl hpK tc0)) ?_)
   exact th (n13_ (A26, A29, A32) trivial) (su (su (su (su (su (su (su (su (su (su (su sn)))))))))))
  refine AWL.allocOp rfl rfl (B rfl) rfl zc_87 (fun b9 => ?_)
  refine pi2 ?_
  refine AWL.nil (kpH (tcB 5 rfl rfl hpR (tcB 5 rfl rfl hpK tc0)) ?_)
  exact th (n10_ (A26, A32, b9) trivial) (su (su (su (su (su (su (su (su (su (su (su (su sn))))))))))))
 intro n9_
 refine AWH.node (ι := Option Addr × Nat) 5 (bA 17 44535) (fun ⟨A26, b9⟩ => [(20, true, zi fi), (22, true, zv R), (26, true, .v (.slice A26 K K)), (28, true, zv R), (31, true, zv K), (33, true, zi d), (9, true, pv b9), (0, true, pv s), (1, true, zv fi), (2, true, .sl 1 (args.map zw)), (3, true, zi d), (8, true, pv b8)]) (fun ⟨A26, b9⟩ => (.row A26 K K 39 1 ((List.replicate K 0#64).map zw) :: .box b9 87 [zi 0, zi 0, nilT, nilT, nilT, nilT, zi 0] :: .box s 80 (psC x (.v (.slice C n c))) :: .row C n c 87 7 cs :: .box b8 51 (fnCells (x.prog.funs.getD fi default)) :: [])) (fun ⟨A26, b9⟩ => True) ?_ ?_
 ·rintro ⟨A26, b9⟩ _
  refine AWH.three (i := 3) (j := 9) (k := 12) (by kernel_rfl) rfl rfl rfl ?_ ?_ ?_ 
  ·refine AWL.makeRow (n := R) (c := R) rfl rfl (B rfl) rfl el_84 (E rfl rfl) (E rfl rfl) (Nat.le_refl _) (by omega) (by unfold maxLen; omega) (fun A23 => ?_)
   refine AWL.eqLast (zero_r args R) ?_
   refine pi0 ?_
   refine AWL.nil (kpH (tcB 5 rfl rfl hpR (tcB 5 rfl rfl hpK tc0)) ?_)
   exact th (n24_ (A23, A26, b9) trivial) (su (su (su (su (su (su (su (su (su (su (su (su sn))))))))))))
  ·refine AWL.makeRow (n := R) (c := R) rfl rfl (B rfl) rfl el_85 (E rfl rfl) (E rfl rfl) (Nat.le_refl _) (by omega) (by unfold maxLen; omega) (fun A29 => ?_)
   refine AWL.eqLast (zero_s R) ?_
   refine pi1 ?_
   refine AWL.nil (kpH (tcB 5 rfl rfl hpR (tcB 5 rfl rfl hpK tc0)) ?_)
   exact th (n12_ (A26, A29, b9) trivial) (su (su (su (su (su (su (su (su (su (su (su (su sn))))))))))))
  refine AWL.makeRow (n := K) (c := K) rfl rfl (B rfl) rfl el_85 (E rfl rfl) (E rfl rfl) (Nat.le_refl _) (by omega) (by unfold maxLen; omega) (fun A32 => ?_)
  refine AWL.eqLast (zero_b K) ?_
  refine pi1 ?_
  refine AWL.nil (kpH (tcB 5 rfl rfl hpR (tcB 5 rfl rfl hpK tc0)) ?_)
  exact th (n10_ (A26, A32, b9) trivial) (su (su (su (su (su (su (su (su (su (su (su (su sn))))))))))))
 intro n8_
 refine AWH.node (ι := Option Addr × Option Addr) 5 (bA 17 16311) (fun ⟨A29, A32⟩ => [(20, true, zi fi), (22, true, zv R), (25, true, zv K), (29, true, .v (.slice A29 R R)), (32, true, .v (.slice A32 K K)), (33, true, zi d), (0, true, pv s), (1, true, zv fi), (2, true, .sl 1 (args.map zw)), (3, true, zi d), (8, true, pv b8)]) (fun ⟨A29, A32⟩ => (.row A29 R R 4 1 ((sJ R 0).map bv) :: .row A32 K K 4 1 ((List.replicate K false).map bv) :: .box s 80 (psC x (.v (.slice C n c))) :: .row C n c 87 7 cs :: .box b8 51 (fnCells (x.prog.funs.getD fi default)) :: [])) (fun ⟨A29, A32⟩ => True) ?_ ?_
 ·rintro ⟨A29, A32⟩ _
  refine AWH.three (i := 3) (j := 6) (k := 15) (by kernel_rfl) rfl rfl rfl ?_ ?_ ?_ 
  ·refine AWL.makeRow (n := R) (c := R) rfl rfl (B rfl) rfl el_84 (E rfl rfl) (E rfl rfl) (Nat.le_refl _) (by omega) (by unfold maxLen; omega) (fun A23 => ?_)
   refine AWL.eqLast (zero_r args R) ?_
   refine pi0 ?_
   refine AWL.nil (kpH (tcB 5 rfl rfl hpR (tcB 5 rfl rfl hpK tc0)) ?_)
   exact th (n21_ (A23, A29, A32) trivial) (su (su (su (su (su (su (su (su (su (su (su sn)))))))))))
  ·refine AWL.makeRow (n := K) (c := K) rfl rfl (B rfl) rfl el_84 (E rfl rfl) (E rfl rfl) (Nat.le_refl _) (by omega) (by unfold maxLen; omega) (fun A26 => ?_)
   refine AWL.eqLast (mk_zero K) ?_
   refine pi0 ?_
   refine AWL.nil (kpH (tcB 5 rfl rfl hpR (tcB 5 rfl rfl hpK tc0)) ?_)
   exact th (n13_ (A26, A29, A32) trivial) (su (su (su (su (su (su (su (su (su (su (su sn)))))))))))
  refine AWL.allocOp rfl rfl (B rfl) rfl zc_87 (fun b9 => ?_)
  refine pi2 ?_
  refine AWL.nil (kpH (tcB 5 rfl rfl hpR (tcB 5 rfl rfl hpK tc0)) ?_)
  exact th (n6_ (A29, A32, b9) trivial) (su (su (su (su (su (su (su (su (su (su (su (su sn))))))))))))
 intro n5_
 refine AWH.node (ι := Option Addr × Nat) 5 (bA 17 44983) (fun ⟨A29, b9⟩ => [(20, true, zi fi), (22, true, zv R), (25, true, zv K), (29, true, .v (.slice A29 R R)), (31, true, zv K), (33, true, zi d), (9, true, pv b9), (0, true, pv s), (1, true, zv fi), (2, true, .sl 1 (args.map zw)), (3, true, zi d), (8, true, pv b8)]) (fun ⟨A29, b9⟩ => (.row A29 R R 4 1 ((sJ R 0).map bv) :: .box b9 87 [zi 0, zi 0, nilT, nilT, nilT, nilT, zi 0] :: .box s 80 (psC x (.v (.slice C n c))) :: .row C n c 87 7 cs :: .box b8 51 (fnCells (x.prog.funs.getD fi default)) :: [])) (fun ⟨A29, b9⟩ => True) ?_ ?_
 ·rintro ⟨A29, b9⟩ _
  refine AWH.three (i := 3) (j := 6) (k := 12) (by kernel_rfl) rfl rfl rfl ?_ ?_ ?_ 
  ·refine AWL.makeRow (n := R) (c := R) rfl rfl (B rfl) rfl el_84 (E rfl rfl) (E rfl rfl) (Nat.le_refl _) (by omega) (by unfold maxLen; omega) (fun A23 => ?_)
   refine AWL.eqLast (zero_r args R) ?_
   refine pi0 ?_
   refine AWL.nil (kpH (tcB 5 rfl rfl hpR (tcB 5 rfl rfl hpK tc0)) ?_)
   exact th (n20_ (A23, A29, b9) trivial) (su (su (su (su (su (su (su (su (su (su (su (su sn))))))))))))
  ·refine AWL.makeRow (n := K) (c := K) rfl rfl (B rfl) rfl el_84 (E rfl rfl) (E rfl rfl) (Nat.le_refl _) (by omega) (by unfold maxLen; omega) (fun A26 => ?_)
   refine AWL.eqLast (mk_zero K) ?_
   refine pi0 ?_
   refine AWL.nil (kpH (tcB 5 rfl rfl hpR (tcB 5 rfl rfl hpK tc0)) ?_)
   exact th (n12_ (A26, A29, b9) trivial) (su (su (su (su (su (su (su (su (su (su (su (su sn))))))))))))
  refine AWL.makeRow (n := K) (c := K) rfl rfl (B rfl) rfl el_85 (E rfl rfl) (E rfl rfl) (Nat.le_refl _) (by omega) (by unfold maxLen; omega) (fun A32 => ?_)
  refine AWL.eqLast (zero_b K) ?_
  refine pi1 ?_
  refine AWL.nil (kpH (tcB 5 rfl rfl hpR (tcB 5 rfl rfl hpK tc0)) ?_)
  exact th (n6_ (A29, A32, b9) trivial) (su (su (su (su (su (su (su (su (su (su (su (su sn))))))))))))
 intro n4_
 refine AWH.node (ι := Option Addr × Nat) 5 (bA 17 48567) (fun ⟨A32, b9⟩ => [(20, true, zi fi), (22, true, zv R), (25, true, zv K), (28, true, zv R), (32, true, .v (.slice A32 K K)), (33, true, zi d), (9, true, pv b9), (0, true, pv s), (1, true, zv fi), (2, true, .sl 1 (args.map zw)), (3, true, zi d), (8, true, pv b8)]) (fun ⟨A32, b9⟩ => (.row A32 K K 4 1 ((List.replicate K false).map bv) :: .box b9 87 [zi 0, zi 0, nilT, nilT, nilT, nilT, zi 0] :: .box s 80 (psC x (.v (.slice C n c))) :: .row C n c 87 7 cs :: .box b8 51 (fnCells (x.prog.funs.getD fi default)) :: [])) (fun ⟨A32, b9⟩ => True) ?_ ?_
 ·rintro ⟨A32, b9⟩ _
  refine AWH.three (i := 3) (j := 6) (k := 9) (by kernel_rfl) rfl rfl rfl ?_ ?_ ?_ 
  ·refine AWL.makeRow (n := R) (c := R) rfl rfl (B rfl) rfl el_84 (E rfl rfl) (E rfl rfl) (Nat.le_refl _) (by omega) (by unfold maxLen; omega) (fun A23 => ?_)
   refine AWL.eqLast (zero_r args R) ?_
   refine pi0 ?_
   refine AWL.nil (kpH (tcB 5 rfl rfl hpR (tcB 5 rfl rfl hpK tc0)) ?_)
   exact th (n18_ (A23, A32, b9) trivial) (su (su (su (su (su (su (su (su (su (su (su (su sn))))))))))))
  ·refine AWL.makeRow (n := K) (c := K) rfl rfl (B rfl) rfl el_84 (E rfl rfl) (E rfl rfl) (Nat.le_refl _) (by omega) (by unfold maxLen; omega) (fun A26 => ?_)
   refine AWL.eqLast (mk_zero K) ?_
   refine pi0 ?_
   refine AWL.nil (kpH (tcB 5 rfl rfl hpR (tcB 5 rfl rfl hpK tc0)) ?_)
   exact th (n10_ (A26, A32, b9) trivial) (su (su (su (su (su (su (su (su (su (su (su (su sn))))))))))))
  refine AWL.makeRow (n := R) (c := R) rfl rfl (B rfl) rfl el_85 (E rfl rfl) (E rfl rfl) (Nat.le_refl _) (by omega) (by unfold maxLen; omega) (fun A29 => ?_)
  refine AWL.eqLast (zero_s R) ?_
  refine pi0 ?_
  refine AWL.nil (kpH (tcB 5 rfl rfl hpR (tcB 5 rfl rfl hpK tc0)) ?_)
  exact th (n6_ (A29, A32, b9) trivial) (su (su (su (su (su (su (su (su (su (su (su (su sn))))))))))))
 intro n2_
 refine AWH.node (ι := Option Addr) 6 (bA 17 11711) (fun A23 => [(20, true, zi fi), (23, true, .v (.slice A23 R R)), (25, true, zv K), (28, true, zv R), (31, true, zv K), (33, true, zi d), (0, true, pv s), (1, true, zv fi), (2, true, .sl 1 (args.map zw)), (3, true, zi d), (8, true, pv b8)]) (fun A23 => (.row A23 R R 39 1 ((rJ args R 0).map zw) :: .box s 80 (psC x (.v (.slice C n c))) :: .row C n c 87 7 cs :: .box b8 51 (fnCells (x.prog.funs.getD fi default)) :: [])) (fun A23 => True) ?_ ?_
 ·rintro A23 _
  refine AWH.four (i0 := 6) (i1 := 9) (i2 := 12) (i3 := 15) (by kernel_rfl) rfl rfl rfl rfl ?_ ?_ ?_ ?_ 
  ·refine AWL.makeRow (n := K) (c := K) rfl rfl (B rfl) rfl el_84 (E rfl rfl) (E rfl rfl) (Nat.le_refl _) (by omega) (by unfold maxLen; omega) (fun A26 => ?_)
   refine AWL.eqLast (mk_zero K) ?_
   refine pi1 ?_
   refine AWL.nil (kpH (tcB 4 rfl rfl hpR (tcB 4 rfl rfl hpK tc0)) ?_)
   exact th (n23_ (A23, A26) trivial) (su (su (su (su (su (su (su (su (su (su (su sn)))))))))))
  ·refine AWL.makeRow (n := R) (c := R) rfl rfl (B rfl) rfl el_85 (E rfl rfl) (E rfl rfl) (Nat.le_refl _) (by omega) (by unfold maxLen; omega) (fun A29 => ?_)
   refine AWL.eqLast (zero_s R) ?_
   refine pi1 ?_
   refine AWL.nil (kpH (tcB 4 rfl rfl hpR (tcB 4 rfl rfl hpK tc0)) ?_)
   exact th (n19_ (A23, A29) trivial) (su (su (su (su (su (su (su (su (su (su (su sn)))))))))))
  ·refine AWL.makeRow (n := K) (c := K) rfl rfl (B rfl) rfl el_85 (E rfl rfl) (E rfl rfl) (Nat.le_refl _) (by omega) (by unfold maxLen; omega) (fun A32 => ?_)
   refine AWL.eqLast (zero_b K) ?_
   refine pi1 ?_
   refine AWL.nil (kpH (tcB 4 rfl rfl hpR (tcB 4 rfl rfl hpK tc0)) ?_)
   exact th (n17_ (A23, A32) trivial) (su (su (su (su (su (su (su (su (su (su (su sn)))))))))))
  refine AWL.allocOp rfl rfl (B rfl) rfl zc_87 (fun b9 => ?_)
  refine pi1 ?_
  refine AWL.nil (kpH (tcB 4 rfl rfl hpR (tcB 4 rfl rfl hpK tc0)) ?_)
  exact th (n16_ (A23, b9) trivial) (su (su (su (su (su (su (su (su (su (su (su (su sn))))))))))))
 intro n15_
 refine AWH.node (ι := Option Addr) 6 (bA 17 11767) (fun A26 => [(20, true, zi fi), (22, true, zv R), (26, true, .v (.slice A26 K K)), (28, true, zv R), (31, true, zv K), (33, true, zi d), (0, true, pv s), (1, true, zv fi), (2, true, .sl 1 (args.map zw)), (3, true, zi d), (8, true, pv b8)]) (fun A26 => (.row A26 K K 39 1 ((List.replicate K 0#64).map zw) :: .box s 80 (psC x (.v (.slice C n c))) :: .row C n c 87 7 cs :: .box b8 51 (fnCells (x.prog.funs.getD fi default)) :: [])) (fun A26 => True) ?_ ?_
 ·rintro A26 _
  refine AWH.four (i0 := 3) (i1 := 9) (i2 := 12) (i3 := 15) (by kernel_rfl) rfl rfl rfl rfl ?_ ?_ ?_ ?_ 
  ·refine AWL.makeRow (n := R) (c := R) rfl rfl (B rfl) rfl el_84 (E rfl rfl) (E rfl rfl) (Nat.le_refl _) (by omega) (by unfold maxLen; omega) (fun A23 => ?_)
   refine AWL.eqLast (zero_r args R) ?_
   refine pi0 ?_
   refine AWL.nil (kpH (tcB 4 rfl rfl hpR (tcB 4 rfl rfl hpK tc0)) ?_)
   exact th (n23_ (A23, A26) trivial) (su (su (su (su (su (su (su (su (su (su (su sn)))))))))))
  ·refine AWL.makeRow (n := R) (c := R) rfl rfl (B rfl) rfl el_85 (E rfl rfl) (E rfl rfl) (Nat.le_refl _) (by omega) (by unfold maxLen; omega) (fun A29 => ?_)
   refine AWL.eqLast (zero_s R) ?_
   refine pi1 ?_
   refine AWL.nil (kpH (tcB 4 rfl rfl hpR (tcB 4 rfl rfl hpK tc0)) ?_)
   exact th (n11_ (A26, A29) trivial) (su (su (su (su (su (su (su (su (su (su (su sn)))))))))))
  ·refine AWL.makeRow (n := K) (c := K) rfl rfl (B rfl) rfl el_85 (E rfl rfl) (E rfl rfl) (Nat.le_refl _) (by omega) (by unfold maxLen; omega) (fun A32 => ?_)
   refine AWL.eqLast (zero_b K) ?_
   refine pi1 ?_
   refine AWL.nil (kpH (tcB 4 rfl rfl hpR (tcB 4 rfl rfl hpK tc0)) ?_)
   exact th (n9_ (A26, A32) trivial) (su (su (su (su (su (su (su (su (su (su (su sn)))))))))))
  refine AWL.allocOp rfl rfl (B rfl) rfl zc_87 (fun b9 => ?_)
  refine pi1 ?_
  refine AWL.nil (kpH (tcB 4 rfl rfl hpR (tcB 4 rfl rfl hpK tc0)) ?_)
  exact th (n8_ (A26, b9) trivial) (su (su (su (su (su (su (su (su (su (su (su (su sn))))))))))))
 intro n7_
 refine AWH.node (ι := Option Addr) 6 (bA 17 12215) (fun A29 => [(20, true, zi fi), (22, true, zv R), (25, true, zv K), (29, true, .v (.slice A29 R R)), (31, true, zv K), (33, true, zi d), (0, true, pv s), (1, true, zv fi), (2, true, .sl 1 (args.map zw)), (3, true, zi d), (8, true, pv b8)]) (fun A29 => (.row A29 R R 4 1 ((sJ R 0).map bv) :: .box s 80 (psC x (.v (.slice C n c))) :: .row C n c 87 7 cs :: .box b8 51 (fnCells (x.prog.funs.getD fi default)) :: [])) (fun A29 => True) ?_ ?_
 ·rintro A29 _
  refine AWH.four (i0 := 3) (i1 := 6) (i2 := 12) (i3 := 15) (by kernel_rfl) rfl rfl rfl rfl ?_ ?_ ?_ ?_ 
  ·refine AWL.makeRow (n := R) (c := R) rfl rfl (B rfl) rfl el_84 (E rfl rfl) (E rfl rfl) (Nat.le_refl _) (by omega) (by unfold maxLen; omega) (fun A23 => ?_)
   refine AWL.eqLast (zero_r args R) ?_
   refine pi0 ?_
   refine AWL.nil (kpH (tcB 4 rfl rfl hpR (tcB 4 rfl rfl hpK tc0)) ?_)
   exact th (n19_ (A23, A29) trivial) (su (su (su (su (su (su (su (su (su (su (su sn)))))))))))
  ·refine AWL.makeRow (n := K) (c := K) rfl rfl (B rfl) rfl el_84 (E rfl rfl) (E rfl rfl) (Nat.le_refl _) (by omega) (by unfold maxLen; omega) (fun A26 => ?_)
   refine AWL.eqLast (mk_zero K) ?_
   refine pi0 ?_
   refine AWL.nil (kpH (tcB 4 rfl rfl hpR (tcB 4 rfl rfl hpK tc0)) ?_)
   exact th (n11_ (A26, A29) trivial) (su (su (su (su (su (su (su (su (su (su (su sn)))))))))))
  ·refine AWL.makeRow (n := K) (c := K) rfl rfl (B rfl) rfl el_85 (E rfl rfl) (E rfl rfl) (Nat.le_refl _) (by omega) (by unfold maxLen; omega) (fun A32 => ?_)
   refine AWL.eqLast (zero_b K) ?_
   refine pi1 ?_
   refine AWL.nil (kpH (tcB 4 rfl rfl hpR (tcB 4 rfl rfl hpK tc0)) ?_)
   exact th (n5_ (A29, A32) trivial) (su (su (su (su (su (su (su (su (su (su (su sn)))))))))))
  refine AWL.allocOp rfl rfl (B rfl) rfl zc_87 (fun b9 => ?_)
  refine pi1 ?_
  refine AWL.nil (kpH (tcB 4 rfl rfl hpR (tcB 4 rfl rfl hpK tc0)) ?_)
  exact th (n4_ (A29, b9) trivial) (su (su (su (su (su (su (su (su (su (su (su (su sn))))))))))))
 intro n3_
 refine AWH.node (ι := Option Addr) 6 (bA 17 15799) (fun A32 => [(20, true, zi fi), (22, true, zv R), (25, true, zv K), (28, true, zv R), (32, true, .v (.slice A32 K K)), (33, true, zi d), (0, true, pv s), (1, true, zv fi), (2, true, .sl 1 (args.map zw)), (3, true, zi d), (8, true, pv b8)]) (fun A32 => (.row A32 K K 4 1 ((List.replicate K false).map bv) :: .box s 80 (psC x (.v (.slice C n c))) :: .row C n c 87 7 cs :: .box b8 51 (fnCells (x.prog.funs.getD fi default)) :: [])) (fun A32 => True) ?_ ?_
 ·rintro A32 _
  refine AWH.four (i0 := 3) (i1 := 6) (i2 := 9) (i3 := 15) (by kernel_rfl) rfl rfl rfl rfl ?_ ?_ ?_ ?_ 
  ·refine AWL.makeRow (n := R) (c := R) rfl rfl (B rfl) rfl el_84 (E rfl rfl) (E rfl rfl) (Nat.le_refl _) (by omega) (by unfold maxLen; omega) (fun A23 => ?_)
   refine AWL.eqLast (zero_r args R) ?_
   refine pi0 ?_
   refine AWL.nil (kpH (tcB 4 rfl rfl hpR (tcB 4 rfl rfl hpK tc0)) ?_)
   exact th (n17_ (A23, A32) trivial) (su (su (su (su (su (su (su (su (su (su (su sn)))))))))))
  ·refine AWL.makeRow (n := K) (c := K) rfl rfl (B rfl) rfl el_84 (E rfl rfl) (E rfl rfl) (Nat.le_refl _) (by omega) (by unfold maxLen; omega) (fun A26 => ?_)
   refine AWL.eqLast (mk_zero K) ?_
   refine pi0 ?_
   refine AWL.nil (kpH (tcB 4 rfl rfl hpR (tcB 4 rfl rfl hpK tc0)) ?_)
   exact th (n9_ (A26, A32) trivial) (su (su (su (su (su (su (su (su (su (su (su sn)))))))))))
  ·refine AWL.makeRow (n := R) (c := R) rfl rfl (B rfl) rfl el_85 (E rfl rfl) (E rfl rfl) (Nat.le_refl _) (by omega) (by unfold maxLen; omega) (fun A29 => ?_)
   refine AWL.eqLast (zero_s R) ?_
   refine pi0 ?_
   refine AWL.nil (kpH (tcB 4 rfl rfl hpR (tcB 4 rfl rfl hpK tc0)) ?_)
   exact th (n5_ (A29, A32) trivial) (su (su (su (su (su (su (su (su (su (su (su sn)))))))))))
  refine AWL.allocOp rfl rfl (B rfl) rfl zc_87 (fun b9 => ?_)
  refine pi1 ?_
  refine AWL.nil (kpH (tcB 4 rfl rfl hpR (tcB 4 rfl rfl hpK tc0)) ?_)
  exact th (n2_ (A32, b9) trivial) (su (su (su (su (su (su (su (su (su (su (su (su sn))))))))))))
 intro n1_
 refine AWH.node (ι := Nat) 6 (bA 17 44471) (fun b9 => [(20, true, zi fi), (22, true, zv R), (25, true, zv K), (28, true, zv R), (31, true, zv K), (33, true, zi d), (9, true, pv b9), (0, true, pv s), (1, true, zv fi), (2, true, .sl 1 (args.map zw)), (3, true, zi d), (8, true, pv b8)]) (fun b9 => (.box b9 87 [zi 0, zi 0, nilT, nilT, nilT, nilT, zi 0] :: .box s 80 (psC x (.v (.slice C n c))) :: .row C n c 87 7 cs :: .box b8 51 (fnCells (x.prog.funs.getD fi default)) :: [])) (fun b9 => True) ?_ ?_
 ·rintro b9 _
  refine AWH.four (i0 := 3) (i1 := 6) (i2 := 9) (i3 := 12) (by kernel_rfl) rfl rfl rfl rfl ?_ ?_ ?_ ?_ 
  ·refine AWL.makeRow (n := R) (c := R) rfl rfl (B rfl) rfl el_84 (E rfl rfl) (E rfl rfl) (Nat.le_refl _) (by omega) (by unfold maxLen; omega) (fun A23 => ?_)
   refine AWL.eqLast (zero_r args R) ?_
   refine pi0 ?_
   refine AWL.nil (kpH (tcB 4 rfl rfl hpR (tcB 4 rfl rfl hpK tc0)) ?_)
   exact th (n16_ (A23, b9) trivial) (su (su (su (su (su (su (su (su (su (su (su (su sn))))))))))))
  ·refine AWL.makeRow (n := K) (c := K) rfl rfl (B rfl) rfl el_84 (E rfl rfl) (E rfl rfl) (Nat.le_refl _) (by omega) (by unfold maxLen; omega) (fun A26 => ?_)
   refine AWL.eqLast (mk_zero K) ?_
   refine pi0 ?_
   refine AWL.nil (kpH (tcB 4 rfl rfl hpR (tcB 4 rfl rfl hpK tc0)) ?_)
   exact th (n8_ (A26, b9) trivial) (su (su (su (su (su (su (su (su (su (su (su (su sn))))))))))))
  ·refine AWL.makeRow (n := R) (c := R) rfl rfl (B rfl) rfl el_85 (E rfl rfl) (E rfl rfl) (Nat.le_refl _) (by omega) (by unfold maxLen; omega) (fun A29 => ?_)
   refine AWL.eqLast (zero_s R) ?_
   refine pi0 ?_
   refine AWL.nil (kpH (tcB 4 rfl rfl hpR (tcB 4 rfl rfl hpK tc0)) ?_)
   exact th (n4_ (A29, b9) trivial) (su (su (su (su (su (su (su (su (su (su (su (su sn))))))))))))
  refine AWL.makeRow (n := K) (c := K) rfl rfl (B rfl) rfl el_85 (E rfl rfl) (E rfl rfl) (Nat.le_refl _) (by omega) (by unfold maxLen; omega) (fun A32 => ?_)
  refine AWL.eqLast (zero_b K) ?_
  refine pi0 ?_
  refine AWL.nil (kpH (tcB 4 rfl rfl hpR (tcB 4 rfl rfl hpK tc0)) ?_)
  exact th (n2_ (A32, b9) trivial) (su (su (su (su (su (su (su (su (su (su (su (su sn))))))))))))
 intro n0_
 refine AWH.five (i0 := 3) (i1 := 6) (i2 := 9) (i3 := 12) (i4 := 15) (by kernel_rfl) rfl rfl rfl rfl rfl ?_ ?_ ?_ ?_ ?_ 
 ·refine AWL.makeRow (n := R) (c := R) rfl rfl (B rfl) rfl el_84 (E rfl rfl) (E rfl rfl) (Nat.le_refl _) (by omega) (by unfold maxLen; omega) (fun A23 => ?_)
  refine AWL.eqLast (zero_r args R) ?_
  refine pi0 ?_
  refine AWL.nil (kpH (tcB 3 rfl rfl hpR (tcB 3 rfl rfl hpK tc0)) ?_)
  exact th (n15_ A23 trivial) (su (su (su (su (su (su (su (su (su (su (su sn)))))))))))
 ·refine AWL.makeRow (n := K) (c := K) rfl rfl (B rfl) rfl el_84 (E rfl rfl) (E rfl rfl) (Nat.le_refl _) (by omega) (by unfold maxLen; omega) (fun A26 => ?_)
  refine AWL.eqLast (mk_zero K) ?_
  refine pi0 ?_
  refine AWL.nil (kpH (tcB 3 rfl rfl hpR (tcB 3 rfl rfl hpK tc0)) ?_)
  exact th (n7_ A26 trivial) (su (su (su (su (su (su (su (su (su (su (su sn)))))))))))
 ·refine AWL.makeRow (n := R) (c := R) rfl rfl (B rfl) rfl el_85 (E rfl rfl) (E rfl rfl) (Nat.le_refl _) (by omega) (by unfold maxLen; omega) (fun A29 => ?_)
  refine AWL.eqLast (zero_s R) ?_
  refine pi0 ?_
  refine AWL.nil (kpH (tcB 3 rfl rfl hpR (tcB 3 rfl rfl hpK tc0)) ?_)
  exact th (n3_ A29 trivial) (su (su (su (su (su (su (su (su (su (su (su sn)))))))))))
 ·refine AWL.makeRow (n := K) (c := K) rfl rfl (B rfl) rfl el_85 (E rfl rfl) (E rfl rfl) (Nat.le_refl _) (by omega) (by unfold maxLen; omega) (fun A32 => ?_)
  refine AWL.eqLast (zero_b K) ?_
  refine pi0 ?_
  refine AWL.nil (kpH (tcB 3 rfl rfl hpR (tcB 3 rfl rfl hpK tc0)) ?_)
  exact th (n1_ A32 trivial) (su (su (su (su (su (su (su (su (su (su (su sn)))))))))))
 refine AWL.allocOp rfl rfl (B rfl) rfl zc_87 (fun b9 => ?_)
 refine pi0 ?_
 refine AWL.nil (kpH (tcB 3 rfl rfl hpR (tcB 3 rfl rfl hpK tc0)) ?_)
 exact th (n0_ b9 trivial) (su (su (su (su (su (su (su (su (su (su (su (su sn))))))))))))

theorem open31 (s : Nat) (x : PS) (fi : Nat) (args : List Wd64) (d : Int) (C : Option Addr) (n c : Nat) (cs : List T) (hf : fi < x.prog.funs.length) (hpf : x.prog.funs.length ≤ 1048576) (h0 : 0 ≤ (x.prog.funs.getD fi default).regs) (h1 : (x.prog.funs.getD fi default).regs ≤ 65536) (k0 : 0 ≤ (x.prog.funs.getD fi default).slots) (k1 : (x.prog.funs.getD fi default).slots ≤ 1048576) (ha : (args.length : Int) ≤ (x.prog.funs.getD fi default).regs) (hn : n ≤ 1048576) :
    ACalls Try.prog 31 [.v (.pointer (some ⟨s, 0, none⟩)), .v (.int .i64 (fi : Int)), .sl 1 (args.map zw), zi d] [.box s 80 (psC x (.v (.slice C n c))), .row C n c 87 7 cs] (fun t S => t = .tup [] ∧ ∃ g c' a, S = [.box s 80 (psC x (.v (.slice (some ⟨g, 0, none⟩) (n + 1) c'))), .row (some ⟨g, 0, none⟩) (n + 1) c' 87 7 (cs ++ frC (openFr (x.prog.funs.getD fi default) fi args d) a)] ++ frR (openFr (x.prog.funs.getD fi default) fi args d) a) :=
 open31_ s x fi args d C n c cs _ _ hf hpf (by omega) (by omega) (by omega) (by omega) (by omega) hn
end Go.Proofs.Ytlfklgganokgdaa

namespace Go.Proofs.Ytlfklgganokgdaa
open Go Go.RowKit
def wI (z : Int) : Wd64 := BitVec.ofInt 64 z
def sI (a : Wd64) : Int := IntKind.i64.wrap (a.toNat : Int)
theorem wI_nat (z : Int) : ((wI z).toNat : Int) = IntKind.u64.wrap z := by
 rw [wrap_u64, wI, BitVec.toNat_ofInt]
 omega
section
variable {cx : Cx} {env : Env} {S : St} {o : Oper} {g : Bool} {x y : Operand}
theorem Yv.convW {src dst : TypeId} {k : IntKind} {p : Int} {d : TypeDesc} (ho : o.op = .convert src dst x) (hs : cx.P.underlying src = some d) (hd : kindOf cx.P dst = some .u64) (hx : Ev env g x (.v (.int k p))) : Yv cx o env S g (zw (wI p)) := by
 have h := Yv.conv (cx := cx) (S := S) ho hs hd hx
 rw [← wI_nat] at h; exact h
theorem Yv.quoW {ty yt : TypeId} {a b : Wd64} (ho : o.op = .binOp .quo ty x y yt) (hx : Ev env g x (zw a)) (hy : Ev env g y (zw b)) (hb : b ≠ 0#64) : Yv cx o env S g (zw (a / b)) := by
 have hb' : (b.toNat : Int) ≠ 0 := fun h => hb (BitVec.eq_of_toNat_eq (by simpa using h))
 have h := Yv.quo (cx := cx) (S := S) ho hx hy (fun _ => hb')
 rw [show (a.toNat : Int).tdiv (b.toNat : Int) = ((a / b).toNat : Int) by rw [BitVec.toNat_udiv]; exact Int.natCast_ediv _ _ ▸ (Int.tdiv_eq_ediv_of_nonneg (Int.natCast_nonneg _)), wrap_nat] at h
 exact h
theorem Yv.remW {ty yt : TypeId} {a b : Wd64} (ho : o.op = .binOp .rem ty x y yt) (hx : Ev env g x (zw a)) (hy : Ev env g y (zw b)) (hb : b ≠ 0#64) : Yv cx o env S g (zw (a % b)) := by
 have hb' : (b.toNat : Int) ≠ 0 := fun h => hb (BitVec.eq_of_toNat_eq (by simpa using h))
 have h := Yv.rem (cx := cx) (S := S) ho hx hy (fun _ => hb')
 rw [show (a.toNat : Int).tmod (b.toNat : Int) = ((a % b).toNat : Int) by rw [BitVec.toNat_umod]; exact Int.natCast_emod _ _ ▸ (Int.tmod_eq_emod_of_nonneg (Int.natCast_nonneg _))] at h
 exact h
end
def hiF (x y : Wd64) : Wd64 :=
 (x >>> 32) * (y >>> 32) + (((x >>> 32) * (y &&& 4294967295#64) + (((x &&& 4294967295#64) * (y &&& 4294967295#64)) >>> 32)) >>> 32) +
  ((((x >>> 32) * (y &&& 4294967295#64) + (((x &&& 4294967295#64) * (y &&& 4294967295#64)) >>> 32)) &&& 4294967295#64) + (x &&& 4294967295#64) * (y >>> 32)) >>> 32
def holdsF (c : Int) (a b : Wd64) : Bool :=
 if c = 1 then decide (a = b) else if c = 2 then !decide (a = b) else if c = 3 then decide (sI a < sI b) else if c = 4 then decide (sI a ≤ sI b) else if c = 5 then decide (a < b) else decide (a ≤ b)
def truthF (b : Bool) : Wd64 := if b = true then 1#64 else 0#64
def rA (x : Fr) (r : Int) : Wd64 := x.r.getD r.toNat 0#64
def valueF (R : Int → Wd64 → Wd64 → Wd64) (heap : Wd64) (x : Fr) (i : Ins) : Wd64 × Bool :=
 if i.kind = 1 then (wI i.imm, true)
 else if i.kind = 27 then (268435456#64 + wI i.imm, true)
 else if i.kind = 28 then (4194304#64 + 16#64 * wI i.f, true)
 else if i.kind = 29 then (heap, true)
 else if i.kind = 31 then (x.slot.getD i.imm.toNat 0#64, x.there.getD i.imm.toNat default)
 else if i.kind = 2 then (rA x i.a, true)
 else if i.kind = 3 then (rA x i.a + rA x i.b, true)
 else if i.kind = 4 then (rA x i.a - rA x i.b, true)
 else if i.kind = 5 then (rA x i.a * rA x i.b, true)
 else if i.kind = 6 then (hiF (rA x i.a) (rA x i.b), true)
 else if i.kind = 9 then (rA x i.a &&& rA x i.b, true)
 else if i.kind = 10 then (rA x i.a ||| rA x i.b, true)
 else if i.kind = 11 then (rA x i.a ^^^ rA x i.b, true)
 else if i.kind = 12 then (rA x i.a <<< (rA x i.b &&& 63#64).toNat, true)
 else if i.kind = 13 then (rA x i.a >>> (rA x i.b &&& 63#64).toNat, true)
 else if i.kind = 14 then (wI (shrOf .i64 (sI (rA x i.a)) ((rA x i.b &&& 63#64).toNat : Int)), true)
 else if i.kind = 15 then (truthF (holdsF i.cond (rA x i.a) (rA x i.b)), true)
 else if i.kind = 16 then (R i.real (rA x i.a) (rA x i.b), true)
 else if rA x i.b = 0#64 then (0#64, false)
 else if i.kind = 7 then (rA x i.a / rA x i.b, true)
 else (rA x i.a % rA x i.b, true)
theorem lt63 (b : Wd64) : (b &&& 63#64).toNat < 64 := by
 rw [BitVec.toNat_and]
 exact Nat.lt_of_le_of_lt Nat.and_le_right (by decide)
def valK (k : Int) : Prop := 1 ≤ k ∧ k ≤ 16 ∨ k = 27 ∨ k = 28 ∨ k = 29 ∨ k = 31
theorem has_ab {k : Int} (h : 3 ≤ k) (h' : k ≤ 16) : (hasF k).a = true ∧ (hasF k).b = true := by
 unfold hasF ofF
 rw [if_neg (by omega), if_neg (by omega)]
 by_cases h15 : k = 15
 ·rw [if_neg (by omega), if_pos h15]; exact ⟨rfl, rfl⟩
 rw [if_pos (by omega)]; exact ⟨rfl, rfl⟩
structure FrOk (x : Fr) : Prop where
 r : x.r.length = x.nr
 s : x.slot.length = x.ns
 t : x.set.length = x.nr
 h : x.there.length = x.ns
section
variable {pre : List T} {x : Fr} {a : FA}
theorem fr_at (i : Nat) : (pre ++ frC x a)[pre.length + i]? = (frC x a)[i]? := by rw [List.getElem?_append_right (by omega), Nat.add_sub_cancel_left]
theorem fr0 : (pre ++ frC x a)[pre.length + 0]? = some (zi x.f) := fr_at 0
theorem fr1 : (pre ++ frC x a)[pre.length + 1]? = some (zi x.at_) := fr_at 1
theorem fr2 : (pre ++ frC x a)[pre.length + 2]? = some (.v (.slice a.r x.nr x.nr)) := fr_at 2
theorem fr3 : (pre ++ frC x a)[pre.length + 3]? = some (.v (.slice a.s x.ns x.ns)) := fr_at 3
theorem fr4 : (pre ++ frC x a)[pre.length + 4]? = some (.v (.slice a.t x.nr x.nr)) := fr_at 4
theorem fr5 : (pre ++ frC x a)[pre.length + 5]? = some (.v (.slice a.h x.ns x.ns)) := fr_at 5
theorem fr6 : (pre ++ frC x a)[pre.length + 6]? = some (zi x.d) := fr_at 6
theorem fr_len : (pre ++ frC x a).length = pre.length + 7 := by rw [List.length_append]; rfl
theorem fr_set (i : Nat) (t : T) : (pre ++ frC x a).set (pre.length + i) t = pre ++ (frC x a).set i t := by
 rw [List.set_append_right _ _ (by omega), Nat.add_sub_cancel_left]
theorem fr_jump (z : Int) : (pre ++ frC x a).set (pre.length + 1) (zi z) = pre ++ frC { x with at_ := z } a := fr_set 1 _
end
def okS (set : List Bool) (l : List Int) : Bool := l.all fun r => set.getD r.toNat default
theorem okS_one (set : List Bool) (r : Int) : okS set [r] = set.getD r.toNat default := by simp [okS]
theorem okS_app (set : List Bool) (l l' : List Int) : okS set (l ++ l') = (okS set l && okS set l') := by simp [okS]
theorem okS_nil (set : List Bool) : okS set [] = true := rfl
def setD (x : Fr) (d : Int) (v : Wd64) : Fr := { x with r := x.r.set d.toNat v, set := x.set.set d.toNat true }
theorem setD_ok {x : Fr} (h : FrOk x) (d : Int) (v : Wd64) : FrOk (setD x d v) := ⟨List.length_set.trans h.r, h.s, List.length_set.trans h.t, h.h⟩
theorem setD_rows (x : Fr) (a : FA) (d : Int) (v : Wd64) : frR (setD x d v) a = [.row a.r x.nr x.nr 39 1 ((x.r.map zw).set (d.toNat * 1) (zw v)), .row a.s x.ns x.ns 39 1 (x.slot.map zw), .row a.t x.nr x.nr 4 1 ((x.set.map bv).set (d.toNat * 1) (bv true)), .row a.h x.ns x.ns 4 1 (x.there.map bv)] := by
 unfold frR setD
 rw [Nat.mul_one, ← List.map_set, ← List.map_set]
def backP (ps : PS) (v : Wd64) : PS := if ps.ent = true then { ps with st := 3, ans := v } else { ps with st := 1, code := IntKind.i64.wrap ((v &&& 255#64).toNat : Int) }
def putF (x : Fr) (i : Ins) : Fr := { x with slot := x.slot.set i.imm.toNat (rA x i.a), there := x.there.set i.imm.toNat true }
theorem putF_rows (x : Fr) (a : FA) (i : Ins) : frR (putF x i) a = [.row a.r x.nr x.nr 39 1 (x.r.map zw), .row a.s x.ns x.ns 39 1 ((x.slot.map zw).set (i.imm.toNat * 1) (zw (rA x i.a))), .row a.t x.nr x.nr 4 1 (x.set.map bv), .row a.h x.ns x.ns 4 1 ((x.there.map bv).set (i.imm.toNat * 1) (bv true))] := by
 unfold frR putF
 rw [Nat.mul_one, ← List.map_set, ← List.map_set]
theorem putF_ok {x : Fr} (h : FrOk x) (i : Ins) : FrOk (putF x i) := ⟨h.r, List.length_set.trans h.s, h.t, List.length_set.trans h.h⟩
def goF (x : Fr) : Fr := { x with at_ := x.at_ + 1 }
theorem goF_ok {x : Fr} (h : FrOk x) : FrOk (goF x) := ⟨h.r, h.s, h.t, h.h⟩
def stepA (R : Int → Wd64 → Wd64 → Wd64) (heap : Wd64) (x : Fr) (i : Ins) : Option Fr :=
 if okS x.set (readsF i) = false then none
 else if i.kind = 32 then some (goF (putF x i))
 else if (valueF R heap x i).2 = true then some (goF (setD x i.d (valueF R heap x i).1))
 else none
theorem has_d {k : Int} (h : valK k) : (hasF k).d = true := by
 unfold valK at h
 unfold hasF ofF
 by_cases h0 : ((k = 1 ∨ k = 27) ∨ k = 29) ∨ k = 31
 ·rw [if_pos h0]; rfl
 rw [if_neg h0]
 by_cases h2 : k = 2
 ·rw [if_pos h2]; rfl
 rw [if_neg h2]
 by_cases h3 : (3 ≤ k ∧ k ≤ 14) ∨ k = 16
 ·rw [if_pos h3]; rfl
 rw [if_neg h3]
 by_cases h4 : k = 15
 ·rw [if_pos h4]; rfl
 rw [if_neg h4, if_neg (by omega), if_neg (by omega), if_neg (by omega), if_neg (by omega), if_neg (by omega), if_neg (by omega), if_neg (by omega), if_neg (by omega), if_neg (by omega), if_pos (by omega)]; rfl
def midA (R : Int → Wd64 → Wd64 → Wd64) (heap : Wd64) (x : Fr) (i : Ins) (v : Wd64) (ok : Bool) (x1 : Fr) : Prop :=
 i.kind = 32 ∧ ok = true ∧ x1 = putF x i ∨ valK i.kind ∧ v = (valueF R heap x i).1 ∧ ok = (valueF R heap x i).2 ∧ x1 = x
section
variable {R : Int → Wd64 → Wd64 → Wd64} {heap : Wd64} {x x1 : Fr} {i : Ins} {v : Wd64} {ok : Bool}
theorem midA_ok (h : midA R heap x i v ok x1) (hx : FrOk x) : FrOk x1 ∧ x1.nr = x.nr ∧ x1.at_ = x.at_ := by
 rcases h with ⟨_, _, rfl⟩ | ⟨_, _, _, rfl⟩
 ·exact ⟨putF_ok hx i, rfl, rfl⟩
 exact ⟨hx, rfl, rfl⟩
theorem stepA_0 (h : okS x.set (readsF i) = false) : stepA R heap x i = none := by rw [stepA, if_pos h]
theorem stepA_1 (h0 : okS x.set (readsF i) = true) (h : midA R heap x i v ok x1) (hn : ok = false) : stepA R heap x i = none ∧ x1 = x := by
 rcases h with ⟨_, h, _⟩ | ⟨hk, _, h, rfl⟩
 ·rw [h] at hn; cases hn
 refine ⟨?_, rfl⟩
 rw [stepA, if_neg (by rw [h0]; decide), if_neg (fun e => by unfold valK at hk; omega), if_neg (by rw [← h, hn]; decide)]
theorem stepA_2 (h0 : okS x.set (readsF i) = true) (h : midA R heap x i v ok x1) (hn : ok = true) (hd : (hasF i.kind).d = true) : stepA R heap x i = some (goF (setD x1 i.d v)) := by
 rcases h with ⟨hk, h, _⟩ | ⟨hk, hv, h, rfl⟩
 ·rw [hk] at hd; cases hd
 rw [stepA, if_neg (by rw [h0]; decide), if_neg (fun e => by unfold valK at hk; omega), if_pos (by rw [← h, hn]), ← hv]
theorem stepA_3 (h0 : okS x.set (readsF i) = true) (h : midA R heap x i v ok x1) (hd : (hasF i.kind).d = false) : stepA R heap x i = some (goF x1) := by
 rcases h with ⟨hk, h, rfl⟩ | ⟨hk, hv, h, rfl⟩
 ·rw [stepA, if_neg (by rw [h0]; decide), if_pos hk]
 rw [has_d hk] at hd; cases hd
end
end Go.Proofs.Ytlfklgganokgdaa

namespace Go.Proofs.Ytlfklgganokgdaa
open Go Go.RowKit

set_option maxHeartbeats 400000 in
theorem holds51 (c : Int) (a b : Wd64) :
    ACalls Try.prog 51 [zi c, zw a, zw b] [] (fun t S => t = bv (holdsF c a b)) := by
 refine ACalls.intro Try.func51 rfl Try.ntmps51 nB rfl fun X w0 => ?_
 refine ra ?_
 refine AW.seq ?_
 refine rs (ym (nl ?_))
 refine AW.block ?_
 refine rs (Y1 (Yv.eql rfl eV eV) ?_)
 refine ya ?_
 refine AW.cond rfl (fun h0t => ?_) (fun h0f => ?_)
 ·try replace h0t := odt h0t
  refine rs (ym ?_)
  refine ym ?_
  refine Y1 (Yv.eqlW rfl eV eV) ?_
  refine ya ?_
  refine AW.ret (retI (.tmp rfl .nil) ?_)
  rw [holdsF, if_pos (by omega)]
  rfl
 try replace h0f := odf h0f
 refine rs (Y1 (Yv.eql rfl eV eV) ?_)
 refine ya ?_
 refine AW.cond rfl (fun h1t => ?_) (fun h1f => ?_)
 ·try replace h1t := odt h1t
  refine rs (ym ?_)
  refine ym ?_
  refine Y1 (Yv.neqW rfl eV eV) ?_
  refine ya ?_
  refine AW.ret (retI (.tmp rfl .nil) ?_)
  rw [holdsF, if_neg (by omega), if_pos (by omega)]
  rfl
 try replace h1f := odf h1f
 refine rs (Y1 (Yv.eql rfl eV eV) ?_)
 refine ya ?_
 refine AW.cond rfl (fun h2t => ?_) (fun h2f => ?_)
 ·try replace h2t := odt h2t
  refine rs (ym ?_)
  refine Y1 (Yv.conv rfl Try.underlying39 kd_2 eV) ?_
  refine ym ?_
  refine Y1 (Yv.conv rfl Try.underlying39 kd_2 eV) ?_
  refine Y1 (Yv.lss rfl eV eV) ?_
  refine ya ?_
  refine AW.ret (retI (.tmp rfl .nil) ?_)
  rw [holdsF, if_neg (by omega), if_neg (by omega), if_pos (by omega)]
  rfl
 try replace h2f := odf h2f
 refine rs (Y1 (Yv.eql rfl eV eV) ?_)
 refine ya ?_
 refine AW.cond rfl (fun h3t => ?_) (fun h3f => ?_)
 ·try replace h3t := odt h3t
  refine rs (ym ?_)
  refine Y1 (Yv.conv rfl Try.underlying39 kd_2 eV) ?_
  refine ym ?_
  refine Y1 (Yv.conv rfl Try.underlying39 kd_2 eV) ?_
  refine Y1 (Yv.leq rfl eV eV) ?_
  refine ya ?_
  refine AW.ret (retI (.tmp rfl .nil) ?_)
  rw [holdsF, if_neg (by omega), if_neg (by omega), if_neg (by omega), if_pos (by omega)]
  rfl
 try replace h3f := odf h3f
 refine rs (Y1 (Yv.eql rfl eV eV) ?_)
 refine ya ?_
 refine AW.cond rfl (fun h4t => ?_) (fun h4f => ?_)
 ·try replace h4t := odt h4t
  refine rs (ym ?_)
  refine ym ?_
  refine Y1 (Yv.lssW rfl eV eV) ?_
  refine ya ?_
  refine AW.ret (retI (.tmp rfl .nil) ?_)
  rw [holdsF, if_neg (by omega), if_neg (by omega), if_neg (by omega), if_neg (by omega), if_pos (by omega)]
  rfl
 try replace h4f := odf h4f
 refine AW.skip ?_
 refine rs (ym ?_)
 refine ym ?_
 refine Y1 (Yv.leqW rfl eV eV) ?_
 refine ya ?_
 refine AW.ret (retI (.tmp rfl .nil) ?_)
 rw [holdsF, if_neg (by omega), if_neg (by omega), if_neg (by omega), if_neg (by omega), if_neg (by omega)]
 rfl

set_option maxHeartbeats 400000 in
theorem truth71 (b : Bool) :
    ACalls Try.prog 71 [bv b] [] (fun t S => t = zw (truthF b)) := by
 refine ACalls.intro Try.func71 rfl Try.ntmps71 nB rfl fun X w0 => ?_
 refine ra ?_
 refine AW.seq ?_
 refine rs (ym (nl ?_))
 refine AW.cond rfl (fun h0t => ?_) (fun h0f => ?_)
 ·refine ra ?_
  refine AW.ret (retI (.tmp rfl .nil) ?_)
  rw [truthF, if_pos h0t]; rfl
 refine AW.skip ?_
 refine ra ?_
 refine AW.ret (retI (.tmp rfl .nil) ?_)
 rw [truthF, if_neg (by rw [h0f]; decide)]; rfl

set_option maxHeartbeats 400000 in
theorem mul70 (a b : Wd64) :
    ACalls Try.prog 70 [zw a, zw b] [] (fun t S => t = .tup [zw (hiF a b), zw (a * b)]) := by
 refine ACalls.intro Try.func70 rfl Try.ntmps70 nB rfl fun X w0 => ?_
 refine rs (Y1 (Yv.assign rfl eV) ?_)
 refine ya ?_
 refine rs (ym ?_)
 refine Y1 (Yv.andW (b := 4294967295#64) rfl eV eV) ?_
 refine ya ?_
 refine rs (ym ?_)
 refine Y1 (Yv.shrW (n := 32) rfl (E rfl rfl) (E rfl rfl) (by decide)) ?_
 refine ya ?_
 refine rs (ym ?_)
 refine Y1 (Yv.andW (b := 4294967295#64) rfl eV eV) ?_
 refine ya ?_
 refine rs (ym ?_)
 refine Y1 (Yv.shrW (n := 32) rfl (E rfl rfl) (E rfl rfl) (by decide)) ?_
 refine ya ?_
 refine rs (ym ?_)
 refine ym ?_
 refine Y1 (Yv.mulW rfl eV eV) ?_
 refine ya ?_
 refine rs (ym ?_)
 refine ym ?_
 refine Y1 (Yv.mulW rfl eV eV) ?_
 refine ym ?_
 refine Y1 (Yv.shrW (n := 32) rfl (E rfl rfl) (E rfl rfl) (by decide)) ?_
 refine Y1 (Yv.addW rfl eV eV) ?_
 refine ya ?_
 refine rs (ym ?_)
 refine Y1 (Yv.andW (b := 4294967295#64) rfl eV eV) ?_
 refine ya ?_
 refine rs (ym ?_)
 refine Y1 (Yv.shrW (n := 32) rfl (E rfl rfl) (E rfl rfl) (by decide)) ?_
 refine ya ?_
 refine rs (ym ?_)
 refine ym ?_
 refine ym ?_
 refine Y1 (Yv.mulW rfl eV eV) ?_
 refine Y1 (Yv.addW rfl eV eV) ?_
 refine ya ?_
 refine rs (ym ?_)
 refine ym ?_
 refine Y1 (Yv.mulW rfl eV eV) ?_
 refine ym ?_
 refine Y1 (Yv.addW rfl eV eV) ?_
 refine ym ?_
 refine Y1 (Yv.shrW (n := 32) rfl (E rfl rfl) (E rfl rfl) (by decide)) ?_
 refine Y1 (Yv.addW rfl eV eV) ?_
 refine ya ?_
 refine rs (ym ?_)
 refine ym ?_
 refine Y1 (Yv.mulW rfl eV eV) ?_
 refine ya ?_
 refine AW.ret (retI (.tmp rfl (.tmp rfl .nil)) ?_)
 rfl

set_option maxHeartbeats 16000000 in
theorem value56_ (R : Int → Wd64 → Wd64 → Wd64) (s g n c : Nat) (ps : PS) (pre : List T) (x : Fr) (a : FA) (i : Ins) (hx : FrOk x) (hk : valK i.kind) (ha : (hasF i.kind).a = true → 0 ≤ i.a ∧ i.a < (x.nr : Int)) (hb : (hasF i.kind).b = true → 0 ≤ i.b ∧ i.b < (x.nr : Int)) (hs : i.kind = 31 → 0 ≤ i.imm ∧ i.imm < (x.ns : Int)) (hR : i.kind = 16 → ACalls Try.prog 72 [zi i.real, zw (rA x i.a), zw (rA x i.b)] [] (fun t S => t = zw (R i.real (rA x i.a) (rA x i.b)))) :
    ACalls Try.prog 56 [.v (.pointer (some ⟨s, 0, none⟩)), .ep (.slice (some ⟨g, 0, none⟩) n c) pre.length, .agg (insCells i)] ([Ent.box s 80 (psC ps (.v (.slice (some ⟨g, 0, none⟩) n c))), Ent.row (some ⟨g, 0, none⟩) n c 87 7 (pre ++ frC x a)] ++ frR x a) (fun t S => t = .tup [zw (valueF R ps.heap x i).1, bv (valueF R ps.heap x i).2] ∧ ([Ent.box s 80 (psC ps (.v (.slice (some ⟨g, 0, none⟩) n c))), Ent.row (some ⟨g, 0, none⟩) n c 87 7 (pre ++ frC x a)] ++ frR x a).Sublist S) := by
 have hl1 := hx.r
 have hl2 := hx.s
 have hl3 := hx.t
 have hl4 := hx.h
 unfold valK at hk
 refine ACalls.intro Try.func56 rfl Try.ntmps56 nB rfl fun X w0 => ?_
 refine rs ?_
 refine AWL.boxOp rfl rfl (B rfl) rfl (E rfl rfl) rfl (fun b5 => ?_)
 refine Y1 (Yv.assign rfl eV) ?_
 refine ya ?_
 refine AW.seq ?_
 refine rs (yf fo_58_0 ?_)
 refine yl ag_3 6 (nl ?_)
 refine AW.block ?_
 refine rs (Y1 (Yv.eql rfl eV eV) ?_)
 refine ya ?_
 refine AW.cond rfl (fun h0t => ?_) (fun h0f => ?_)
 ·try replace h0t := odt h0t
  refine rs (yf fo_58_9 ?_)
  refine yl ag_2 6 ?_
  refine Y1 (Yv.convW rfl Try.underlying2 kd_39 eV) ?_
  refine Y1 (Yv.assign rfl eV) ?_
  refine ya ?_
  refine AW.ret (retI (.tmp rfl (.tmp rfl .nil)) ?_)
  rw [valueF, if_pos (by omega)]
  exact ⟨rfl, List.sublist_append_left _ _⟩
 try replace h0f := odf h0f
 refine rs (Y1 (Yv.eql rfl eV eV) ?_)
 refine ya ?_
 refine AW.cond rfl (fun h1t => ?_) (fun h1f => ?_)
 ·try replace h1t := odt h1t
  refine rs (yf fo_58_9 ?_)
  refine yl ag_2 6 ?_
  refine Y1 (Yv.convW rfl Try.underlying2 kd_39 eV) ?_
  refine Y1 (Yv.addW (a := 268435456#64) rfl eV eV) ?_
  refine Y1 (Yv.assign rfl eV) ?_
  refine ya ?_
  refine AW.ret (retI (.tmp rfl (.tmp rfl .nil)) ?_)
  rw [valueF, if_neg (by omega), if_pos (by omega)]
  exact ⟨rfl, List.sublist_append_left _ _⟩
 try replace h1f := odf h1f
 refine rs (Y1 (Yv.eql rfl eV eV) ?_)
 refine ya ?_
 refine AW.cond rfl (fun h2t => ?_) (fun h2f => ?_)
 ·try replace h2t := odt h2t
  refine rs (yf fo_58_5 ?_)
  refine yl ag_3 6 ?_
  refine Y1 (Yv.convW rfl Try.underlying3 kd_39 eV) ?_
  refine Y1 (Yv.mulW (a := 16#64) rfl eV eV) ?_
  refine Y1 (Yv.addW (a := 4194304#64) rfl eV eV) ?_
  refine Y1 (Yv.assign rfl eV) ?_
  refine ya ?_
  refine AW.ret (retI (.tmp rfl (.tmp rfl .nil)) ?_)
  rw [valueF, if_neg (by omega), if_neg (by omega), if_pos (by omega)]
  exact ⟨rfl, List.sublist_append_left _ _⟩
 try replace h2f := odf h2f
 refine rs (Y1 (Yv.eql rfl eV eV) ?_)
 refine ya ?_
 refine AW.cond rfl (fun h3t => ?_) (fun h3f => ?_)
 ·try replace h3t := odt h3t
  refine rs (ym ?_)
  refine Y1 (Yv.nilChk rfl eV) ?_
  refine yf fo_80_2 ?_
  refine yl ag_39 0 ?_
  refine Y1 (Yv.assign rfl eV) ?_
  refine ya ?_
  refine AW.ret (retI (.tmp rfl (.tmp rfl .nil)) ?_)
  rw [valueF, if_neg (by omega), if_neg (by omega), if_neg (by omega), if_pos (by omega)]
  exact ⟨rfl, List.sublist_append_left _ _⟩
 try replace h3f := odf h3f
 refine rs (Y1 (Yv.eql rfl eV eV) ?_)
 refine ya ?_
 refine AW.cond rfl (fun h4t => ?_) (fun h4f => ?_)
 ·try replace h4t := odt h4t
  obtain ⟨hs0, hs1⟩ := hs (by omega)
  refine AW.rseqQ rfl (by kernel_rfl) ?_
  refine qm ?_
  refine Q1 (Yv.nilChkEp rfl eV) ?_
  refine Q1 (Yv.fieldEp rfl fo_87_3 eV) ?_
  refine Q1 (Yv.loadEp rfl ag_84 (i := 1) rfl eV (fun hg => fr3)) ?_
  refine qf fo_58_9 ?_
  refine ql ag_2 6 ?_
  refine Q1 (Yv.indexRow (j := i.imm.toNat) rfl ss_84 (i := 3) rfl eV eV (fun hg => ⟨(Int.toNat_of_nonneg (by omega)).symm, by omega⟩)) ?_
  refine Q1 (Yv.loadEp rfl ag_39 (i := 3) rfl eV (fun hg => word_at (by omega))) ?_
  refine qm ?_
  refine Q1 (Yv.nilChkEp rfl eV) ?_
  refine Q1 (Yv.fieldEp rfl fo_87_5 eV) ?_
  refine Q1 (Yv.loadEp rfl ag_85 (i := 1) rfl eV (fun hg => fr5)) ?_
  refine qf fo_58_9 ?_
  refine ql ag_2 6 ?_
  refine Q1 (Yv.indexRow (j := i.imm.toNat) rfl ss_85 (i := 5) rfl eV eV (fun hg => ⟨(Int.toNat_of_nonneg (by omega)).symm, by omega⟩)) ?_
  refine Q1 (Yv.loadEp rfl ag_4 (i := 5) rfl eV (fun hg => bool_at (by omega))) ?_
  refine Q1 (Yv.assign rfl eV) ?_
  refine Q1 (Yv.assign rfl eV) ?_
  refine AWQ.nil ?_
  refine AW.ret (retI (.tmp rfl (.tmp rfl .nil)) ?_)
  rw [valueF, if_neg (by omega), if_neg (by omega), if_neg (by omega), if_neg (by omega), if_pos (by omega)]
  exact ⟨rfl, List.sublist_append_left _ _⟩
 try replace h4f := odf h4f
 refine rs (Y1 (Yv.eql rfl eV eV) ?_)
 refine ya ?_
 refine AW.cond rfl (fun h5t => ?_) (fun h5f => ?_)
 ·try replace h5t := odt h5t
  obtain ⟨ha0, ha1⟩ := ha (by rw [show i.kind = 2 by omega]; rfl)
  refine AW.rseqQ rfl (by kernel_rfl) ?_
  refine qm ?_
  refine Q1 (Yv.nilChkEp rfl eV) ?_
  refine Q1 (Yv.fieldEp rfl fo_87_2 eV) ?_
  refine Q1 (Yv.loadEp rfl ag_84 (i := 1) rfl eV (fun hg => fr2)) ?_
  refine qf fo_58_2 ?_
  refine ql ag_3 6 ?_
  refine Q1 (Yv.indexRow (j := i.a.toNat) rfl ss_84 (i := 2) rfl eV eV (fun hg => ⟨(Int.toNat_of_nonneg (by omega)).symm, by omega⟩)) ?_
  refine Q1 (Yv.loadEp rfl ag_39 (i := 2) rfl eV (fun hg => word_at (by omega))) ?_
  refine Q1 (Yv.assign rfl eV) ?_
  refine Q1 (Yv.assign rfl eV) ?_
  refine AWQ.nil ?_
  refine AW.ret (retI (.tmp rfl (.tmp rfl .nil)) ?_)
  rw [valueF, if_neg (by omega), if_neg (by omega), if_neg (by omega), if_neg (by omega), if_neg (by omega), if_pos (by omega)]
  exact ⟨rfl, List.sublist_append_left _ _⟩
 try replace h5f := odf h5f
 refine AW.skip ?_
 obtain ⟨hka, hkb⟩ := has_ab (k := i.kind) (by omega) (by omega)
 obtain ⟨ha0, ha1⟩ := ha hka
 obtain ⟨hb0, hb1⟩ := hb hkb
 refine AW.rseqQ rfl (by kernel_rfl) ?_
 refine qm ?_
 refine Q1 (Yv.nilChkEp rfl eV) ?_
 refine Q1 (Yv.fieldEp rfl fo_87_2 eV) ?_
 refine Q1 (Yv.loadEp rfl ag_84 (i := 1) rfl eV (fun hg => fr2)) ?_
 refine qf fo_58_2 ?_
 refine ql ag_3 6 ?_
 refine Q1 (Yv.indexRow (j := i.a.toNat) rfl ss_84 (i := 2) rfl eV eV (fun hg => ⟨(Int.toNat_of_nonneg (by omega)).symm, by omega⟩)) ?_
 refine Q1 (Yv.loadEp rfl ag_39 (i := 2) rfl eV (fun hg => word_at (by omega))) ?_
 refine qm ?_
 refine Q1 (Yv.nilChkEp rfl eV) ?_
 refine Q1 (Yv.fieldEp rfl fo_87_2 eV) ?_
 refine Q1 (Yv.loadEp rfl ag_84 (i := 1) rfl eV (fun hg => fr2)) ?_
 refine qf fo_58_3 ?_
 refine ql ag_3 6 ?_
 refine Q1 (Yv.indexRow (j := i.b.toNat) rfl ss_84 (i := 2) rfl eV eV (fun hg => ⟨(Int.toNat_of_nonneg (by omega)).symm, by omega⟩)) ?_
 refine Q1 (Yv.loadEp rfl ag_39 (i := 2) rfl eV (fun hg => word_at (by omega))) ?_
 refine Q1 (Yv.assign rfl eV) ?_
 refine Q1 (Yv.assign rfl eV) ?_
 refine AWQ.nil ?_
 refine AW.seq ?_
 refine rs (yf fo_58_0 ?_)
 refine yl ag_3 6 (nl ?_)
 refine AW.block ?_
 refine rs (Y1 (Yv.eql rfl eV eV) ?_)
 refine ya ?_
 refine AW.cond rfl (fun h6t => ?_) (fun h6f => ?_)
 ·try replace h6t := odt h6t
  refine rs (ym ?_)
  refine ym ?_
  refine Y1 (Yv.addW rfl eV eV) ?_
  refine Y1 (Yv.assign rfl eV) ?_
  refine ya ?_
  refine AW.ret (retI (.tmp rfl (.tmp rfl .nil)) ?_)
  rw [valueF, if_neg (by omega), if_neg (by omega), if_neg (by omega), if_neg (by omega), if_neg (by omega), if_neg (by omega), if_pos (by omega)]
  exact ⟨rfl, List.sublist_append_left _ _⟩
 try replace h6f := odf h6f
 refine rs (Y1 (Yv.eql rfl eV eV) ?_)
 refine ya ?_
 refine AW.cond rfl (fun h7t => ?_) (fun h7f => ?_)
 ·try replace h7t := odt h7t
  refine rs (ym ?_)
  refine ym ?_
  refine Y1 (Yv.subW rfl eV eV) ?_
  refine Y1 (Yv.assign rfl eV) ?_
  refine ya ?_
  refine AW.ret (retI (.tmp rfl (.tmp rfl .nil)) ?_)
  rw [valueF, if_neg (by omega), if_neg (by omega), if_neg (by omega), if_neg (by omega), if_neg (by omega), if_neg (by omega), if_neg (by omega), if_pos (by omega)]
  exact ⟨rfl, List.sublist_append_left _ _⟩
 try replace h7f := odf h7f
 refine rs (Y1 (Yv.eql rfl eV eV) ?_)
 refine ya ?_
 refine AW.cond rfl (fun h8t => ?_) (fun h8f => ?_)
 ·try replace h8t := odt h8t
  refine rs (ym ?_)
  refine ym ?_
  refine Y1 (Yv.mulW rfl eV eV) ?_
  refine Y1 (Yv.assign rfl eV) ?_
  refine ya ?_
  refine AW.ret (retI (.tmp rfl (.tmp rfl .nil)) ?_)
  rw [valueF, if_neg (by omega), if_neg (by omega), if_neg (by omega), if_neg (by omega), if_neg (by omega), if_neg (by omega), if_neg (by omega), if_neg (by omega), if_pos (by omega)]
  exact ⟨rfl, List.sublist_append_left _ _⟩
 try replace h8f := odf h8f
 refine rs (Y1 (Yv.eql rfl eV eV) ?_)
 refine ya ?_
 refine AW.cond rfl (fun h9t => ?_) (fun h9f => ?_)
 ·try replace h9t := odt h9t
  refine rs (ym ?_)
  refine ym ?_
  refine AWL.callT rfl rfl (B rfl) rfl ce_70 (E rfl rfl) (evsC (E rfl rfl) (evsC (E rfl rfl) evs0)) (mul70 (rA x i.a) (rA x i.b)) ?_
  rintro t104 S104 rfl
  refine ym ?_
  refine Y1 (Yv.extract rfl eV rfl) ?_
  refine Y1 (Yv.extract rfl eV rfl) ?_
  refine Y1 (Yv.assign rfl eV) ?_
  refine ya ?_
  refine rs (ym ?_)
  refine Y1 (Yv.assign rfl eV) ?_
  refine ya ?_
  refine AW.ret (retI (.tmp rfl (.tmp rfl .nil)) ?_)
  rw [valueF, if_neg (by omega), if_neg (by omega), if_neg (by omega), if_neg (by omega), if_neg (by omega), if_neg (by omega), if_neg (by omega), if_neg (by omega), if_neg (by omega), if_pos (by omega)]
  exact ⟨rfl, List.sublist_append_left _ _⟩
 try replace h9f := odf h9f
 refine rs (Y1 (Yv.eql rfl eV eV) ?_)
 refine ya ?_
 refine AW.cond rfl (fun h10t => ?_) (fun h10f => ?_)
 ·try replace h10t := odt h10t
  refine rs (ym ?_)
  refine ym ?_
  refine Y1 (Yv.andW rfl eV eV) ?_
  refine Y1 (Yv.assign rfl eV) ?_
  refine ya ?_
  refine AW.ret (retI (.tmp rfl (.tmp rfl .nil)) ?_)
  rw [valueF, if_neg (by omega), if_neg (by omega), if_neg (by omega), if_neg (by omega), if_neg (by omega), if_neg (by omega), if_neg (by omega), if_neg (by omega), if_neg (by omega), if_neg (by omega), if_pos (by omega)]
  exact ⟨rfl, List.sublist_append_left _ _⟩
 try replace h10f := odf h10f
 refine rs (Y1 (Yv.eql rfl eV eV) ?_)
 refine ya ?_
 refine AW.cond rfl (fun h11t => ?_) (fun h11f => ?_)
 ·try replace h11t := odt h11t
  refine rs (ym ?_)
  refine ym ?_
  refine Y1 (Yv.orW rfl eV eV) ?_
  refine Y1 (Yv.assign rfl eV) ?_
  refine ya ?_
  refine AW.ret (retI (.tmp rfl (.tmp rfl .nil)) ?_)
  rw [valueF, if_neg (by omega), if_neg (by omega), if_neg (by omega), if_neg (by omega), if_neg (by omega), if_neg (by omega), if_neg (by omega), if_neg (by omega), if_neg (by omega), if_neg (by omega), if_neg (by omega), if_pos (by omega)]
  exact ⟨rfl, List.sublist_append_left _ _⟩
 try replace h11f := odf h11f
 refine rs (Y1 (Yv.eql rfl eV eV) ?_)
 refine ya ?_
 refine AW.cond rfl (fun h12t => ?_) (fun h12f => ?_)
 ·try replace h12t := odt h12t
  refine rs (ym ?_)
  refine ym ?_
  refine Y1 (Yv.xorW rfl eV eV) ?_
  refine Y1 (Yv.assign rfl eV) ?_
  refine ya ?_
  refine AW.ret (retI (.tmp rfl (.tmp rfl .nil)) ?_)
  rw [valueF, if_neg (by omega), if_neg (by omega), if_neg (by omega), if_neg (by omega), if_neg (by omega), if_neg (by omega), if_neg (by omega), if_neg (by omega), if_neg (by omega), if_neg (by omega), if_neg (by omega), if_neg (by omega), if_pos (by omega)]
  exact ⟨rfl, List.sublist_append_left _ _⟩
 try replace h12f := odf h12f
 refine rs (Y1 (Yv.eql rfl eV eV) ?_)
 refine ya ?_
 refine AW.cond rfl (fun h13t => ?_) (fun h13f => ?_)
 ·try replace h13t := odt h13t
  refine rs (ym ?_)
  refine ym ?_
  refine Y1 (Yv.andW (b := 63#64) rfl eV eV) ?_
  refine Y1 (Yv.shlW rfl eV eV (lt63 _)) ?_
  refine Y1 (Yv.assign rfl eV) ?_
  refine ya ?_
  refine AW.ret (retI (.tmp rfl (.tmp rfl .nil)) ?_)
  rw [valueF, if_neg (by omega), if_neg (by omega), if_neg (by omega), if_neg (by omega), if_neg (by omega), if_neg (by omega), if_neg (by omega), if_neg (by omega), if_neg (by omega), if_neg (by omega), if_neg (by omega), if_neg (by omega), if_neg (by omega), if_pos (by omega)]
  exact ⟨rfl, List.sublist_append_left _ _⟩
 try replace h13f := odf h13f
 refine rs (Y1 (Yv.eql rfl eV eV) ?_)
 refine ya ?_
 refine AW.cond rfl (fun h14t => ?_) (fun h14f => ?_)
 ·try replace h14t := odt h14t
  refine rs (ym ?_)
  refine ym ?_
  refine Y1 (Yv.andW (b := 63#64) rfl eV eV) ?_
  refine Y1 (Yv.shrW rfl eV eV (lt63 _)) ?_
  refine Y1 (Yv.assign rfl eV) ?_
  refine ya ?_
  refine AW.ret (retI (.tmp rfl (.tmp rfl .nil)) ?_)
  rw [valueF, if_neg (by omega), if_neg (by omega), if_neg (by omega), if_neg (by omega), if_neg (by omega), if_neg (by omega), if_neg (by omega), if_neg (by omega), if_neg (by omega), if_neg (by omega), if_neg (by omega), if_neg (by omega), if_neg (by omega), if_neg (by omega), if_pos (by omega)]
  exact ⟨rfl, List.sublist_append_left _ _⟩
 try replace h14f := odf h14f
 refine rs (Y1 (Yv.eql rfl eV eV) ?_)
 refine ya ?_
 refine AW.cond rfl (fun h15t => ?_) (fun h15f => ?_)
 ·try replace h15t := odt h15t
  refine rs (ym ?_)
  refine Y1 (Yv.conv rfl Try.underlying39 kd_2 eV) ?_
  refine ym ?_
  refine Y1 (Yv.andW (b := 63#64) rfl eV eV) ?_
  refine Y1 (Yv.shr (p := sI (rA x i.a)) rfl eV eV (fun _ => Int.natCast_nonneg _)) ?_
  refine Y1 (Yv.convW rfl Try.underlying2 kd_39 eV) ?_
  refine Y1 (Yv.assign rfl eV) ?_
  refine ya ?_
  refine AW.ret (retI (.tmp rfl (.tmp rfl .nil)) ?_)
  rw [valueF, if_neg (by omega), if_neg (by omega), if_neg (by omega), if_neg (by omega), if_neg (by omega), if_neg (by omega), if_neg (by omega), if_neg (by omega), if_neg (by omega), if_neg (by omega), if_neg (by omega), if_neg (by omega), if_neg (by omega), if_neg (by omega), if_neg (by omega), if_pos (by omega)]
  exact ⟨rfl, List.sublist_append_left _ _⟩
 try replace h15f := odf h15f
 refine rs (Y1 (Yv.eql rfl eV eV) ?_)
 refine ya ?_
 refine AW.cond rfl (fun h16t => ?_) (fun h16f => ?_)
 ·try replace h16t := odt h16t
  refine rs (yf fo_58_6 ?_)
  refine yl ag_3 6 ?_
  refine ym ?_
  refine ym ?_
  refine AWL.callT rfl rfl (B rfl) rfl ce_51 (E rfl rfl) (evsC (E rfl rfl) (evsC (E rfl rfl) (evsC (E rfl rfl) evs0))) (holds51 i.cond (rA x i.a) (rA x i.b)) ?_
  rintro t149 S149 rfl
  refine AWL.callT rfl rfl (B rfl) rfl ce_71 (E rfl rfl) (evsC (E rfl rfl) evs0) (truth71 (holdsF i.cond (rA x i.a) (rA x i.b))) ?_
  rintro t150 S150 rfl
  refine Y1 (Yv.assign rfl eV) ?_
  refine ya ?_
  refine AW.ret (retI (.tmp rfl (.tmp rfl .nil)) ?_)
  rw [valueF, if_neg (by omega), if_neg (by omega), if_neg (by omega), if_neg (by omega), if_neg (by omega), if_neg (by omega), if_neg (by omega), if_neg (by omega), if_neg (by omega), if_neg (by omega), if_neg (by omega), if_neg (by omega), if_neg (by omega), if_neg (by omega), if_neg (by omega), if_neg (by omega), if_pos (by omega)]
  exact ⟨rfl, List.sublist_append_left _ _⟩
 try replace h16f := odf h16f
 refine rs (Y1 (Yv.eql rfl eV eV) ?_)
 refine ya ?_
 refine AW.cond rfl (fun h17t => ?_) (fun h17f => ?_)
 ·try replace h17t := odt h17t
  refine rs (yf fo_58_7 ?_)
  refine yl ag_3 6 ?_
  refine ym ?_
  refine ym ?_
  refine AWL.callT rfl rfl (B rfl) rfl ce_72 (E rfl rfl) (evsC (E rfl rfl) (evsC (E rfl rfl) (evsC (E rfl rfl) evs0))) (hR (by omega)) ?_
  rintro t157 S157 rfl
  refine Y1 (Yv.assign rfl eV) ?_
  refine ya ?_
  refine AW.ret (retI (.tmp rfl (.tmp rfl .nil)) ?_)
  rw [valueF, if_neg (by omega), if_neg (by omega), if_neg (by omega), if_neg (by omega), if_neg (by omega), if_neg (by omega), if_neg (by omega), if_neg (by omega), if_neg (by omega), if_neg (by omega), if_neg (by omega), if_neg (by omega), if_neg (by omega), if_neg (by omega), if_neg (by omega), if_neg (by omega), if_neg (by omega), if_pos (by omega)]
  exact ⟨rfl, List.sublist_append_left _ _⟩
 try replace h17f := odf h17f
 refine AW.skip ?_
 refine AW.seq ?_
 refine AW.block ?_
 refine rs (ym ?_)
 refine Y1 (Yv.eqlW (b := 0#64) rfl eV eV) ?_
 refine ya ?_
 refine AW.cond rfl (fun h18t => ?_) (fun h18f => ?_)
 ·try replace h18t := odt h18t
  refine rs (Y1 (Yv.assign rfl eV) ?_)
  refine ya ?_
  refine AW.ret (retI (.tmp rfl (.tmp rfl .nil)) ?_)
  rw [valueF, if_neg (by omega), if_neg (by omega), if_neg (by omega), if_neg (by omega), if_neg (by omega), if_neg (by omega), if_neg (by omega), if_neg (by omega), if_neg (by omega), if_neg (by omega), if_neg (by omega), if_neg (by omega), if_neg (by omega), if_neg (by omega), if_neg (by omega), if_neg (by omega), if_neg (by omega), if_neg (by omega)]
  rw [if_pos (by assumption)]
  exact ⟨rfl, List.sublist_append_left _ _⟩
 try replace h18f := odf h18f
 refine rs (yf fo_58_0 ?_)
 refine yl ag_3 6 ?_
 refine Y1 (Yv.eql rfl eV eV) ?_
 refine ya ?_
 refine AW.cond rfl (fun h19t => ?_) (fun h19f => ?_)
 ·try replace h19t := odt h19t
  refine rs (ym ?_)
  refine ym ?_
  refine Y1 (Yv.quoW rfl eV eV (by assumption)) ?_
  refine Y1 (Yv.assign rfl eV) ?_
  refine ya ?_
  refine AW.ret (retI (.tmp rfl (.tmp rfl .nil)) ?_)
  rw [valueF, if_neg (by omega), if_neg (by omega), if_neg (by omega), if_neg (by omega), if_neg (by omega), if_neg (by omega), if_neg (by omega), if_neg (by omega), if_neg (by omega), if_neg (by omega), if_neg (by omega), if_neg (by omega), if_neg (by omega), if_neg (by omega), if_neg (by omega), if_neg (by omega), if_neg (by omega), if_neg (by omega)]
  rw [if_neg (by assumption), if_pos (by omega)]
  exact ⟨rfl, List.sublist_append_left _ _⟩
 try replace h19f := odf h19f
 refine AW.skip ?_
 refine rs (ym ?_)
 refine ym ?_
 refine Y1 (Yv.remW rfl eV eV (by assumption)) ?_
 refine Y1 (Yv.assign rfl eV) ?_
 refine ya ?_
 refine AW.ret (retI (.tmp rfl (.tmp rfl .nil)) ?_)
 rw [valueF, if_neg (by omega), if_neg (by omega), if_neg (by omega), if_neg (by omega), if_neg (by omega), if_neg (by omega), if_neg (by omega), if_neg (by omega), if_neg (by omega), if_neg (by omega), if_neg (by omega), if_neg (by omega), if_neg (by omega), if_neg (by omega), if_neg (by omega), if_neg (by omega), if_neg (by omega), if_neg (by omega)]
 rw [if_neg (by assumption), if_neg (by omega)]
 exact ⟨rfl, List.sublist_append_left _ _⟩

theorem value56 (R : Int → Wd64 → Wd64 → Wd64) (s g n c : Nat) (ps : PS) (pre : List T) (x : Fr) (a : FA) (i : Ins) (hx : FrOk x) (hk : valK i.kind) (ha : (hasF i.kind).a = true → 0 ≤ i.a ∧ i.a < (x.nr : Int)) (hb : (hasF i.kind).b = true → 0 ≤ i.b ∧ i.b < (x.nr : Int)) (hs : i.kind = 31 → 0 ≤ i.imm ∧ i.imm < (x.ns : Int)) (hR : i.kind = 16 → ACalls Try.prog 72 [zi i.real, zw (rA x i.a), zw (rA x i.b)] [] (fun t S => t = zw (R i.real (rA x i.a) (rA x i.b)))) : ACalls Try.prog 56 [.v (.pointer (some ⟨s, 0, none⟩)), .ep (.slice (some ⟨g, 0, none⟩) n c) pre.length, .agg (insCells i)] ([Ent.box s 80 (psC ps (.v (.slice (some ⟨g, 0, none⟩) n c))), Ent.row (some ⟨g, 0, none⟩) n c 87 7 (pre ++ frC x a)] ++ frR x a) (fun t S => t = .tup [zw (valueF R ps.heap x i).1, bv (valueF R ps.heap x i).2] ∧ S = [Ent.box s 80 (psC ps (.v (.slice (some ⟨g, 0, none⟩) n c))), Ent.row (some ⟨g, 0, none⟩) n c 87 7 (pre ++ frC x a)] ++ frR x a) :=
 (value56_ R s g n c ps pre x a i hx hk ha hb hs hR).less fun t S' ⟨h1, h2⟩ => ⟨_, h2, h1, rfl⟩
end Go.Proofs.Ytlfklgganokgdaa

namespace Go.Proofs.Ytlfklgganokgdaa
open Go Go.RowKit

set_option maxHeartbeats 2000000 in
theorem do50 (bf bc g n c : Nat) (pre : List T) (x : Fr) (a : FA) (f0 : Bool) (r : Int) (hl : x.set.length = x.nr) (hr : 0 ≤ r ∧ r < (x.nr : Int)) :
    ACalls Try.prog 50 [zi r, .v (.pointer (some ⟨bf, 0, none⟩)), .v (.pointer (some ⟨bc, 0, none⟩))] ([Ent.box bf 4 [bv (f0)], Ent.box bc 83 [.ep (.slice (some ⟨g, 0, none⟩) n c) pre.length], Ent.row (some ⟨g, 0, none⟩) n c 87 7 (pre ++ frC x a), Ent.row a.t x.nr x.nr 4 1 (x.set.map bv)]) (fun t S => t = .tup [] ∧ S = [Ent.box bf 4 [bv (f0 && x.set.getD r.toNat default)], Ent.box bc 83 [.ep (.slice (some ⟨g, 0, none⟩) n c) pre.length], Ent.row (some ⟨g, 0, none⟩) n c 87 7 (pre ++ frC x a), Ent.row a.t x.nr x.nr 4 1 (x.set.map bv)]) := by
 refine ACalls.intro Try.func50 rfl Try.ntmps50 nB rfl fun X w0 => ?_
 refine AW.region ?_
 refine yl ag_4 0 ?_
 refine ym ?_
 refine gT (Yv.loadBox rfl ag_83 (i := 1) rfl eV rfl) ?_
 refine gT (Yv.nilChkEp rfl (Eg rfl rfl id)) ?_
 refine gT (Yv.fieldEp rfl fo_87_4 (Eg rfl rfl id)) ?_
 refine gT (Yv.loadEp rfl ag_85 (i := 2) rfl (Eg rfl rfl id) (fun hg => fr4)) ?_
 refine gT (Yv.move rfl eV) ?_
 refine gT (Yv.indexRow (j := r.toNat) rfl ss_85 (i := 3) rfl (Eg rfl rfl id) (Eg rfl rfl id) (fun hg => ⟨(Int.toNat_of_nonneg (by omega)).symm, by omega⟩)) ?_
 refine gT (Yv.loadEp rfl ag_4 (i := 3) rfl (Eg rfl rfl id) (fun hg => bool_at (by omega))) ?_
 refine Y1 (Yv.pickAnd rfl eV (Eg rfl rfl id)) ?_
 refine AWL.storeBox (i := 0) rfl rfl rfl ag_4 rfl (E rfl rfl) (E rfl rfl) rfl rfl nB (nl ?_)
 refine retN .nil ?_
 exact ⟨rfl, rfl⟩

theorem rd3_of (i : Ins) : readsF i = rd2 i ++ if (hasF i.kind).args = true then i.args else [] := rfl
theorem rd2_of (i : Ins) : rd2 i = rd1 i ++ if (hasF i.kind).b = true then [i.b] else [] := rfl
set_option maxHeartbeats 4000000 in
theorem reads49_ (bf bc g n c : Nat) (pre : List T) (x : Fr) (a : FA) (f0 : Bool) (i : Ins) (hl : x.set.length = x.nr) (ha : i.args.length ≤ 1048576) (hr : ∀ r ∈ readsF i, 0 ≤ r ∧ r < (x.nr : Int)) :
    ACalls Try.prog 49 [.agg (insCells i), .v (.func (.func 50) #[] #[.pointer (some ⟨bf, 0, none⟩), .pointer (some ⟨bc, 0, none⟩)])] ([Ent.box bf 4 [bv (f0)], Ent.box bc 83 [.ep (.slice (some ⟨g, 0, none⟩) n c) pre.length], Ent.row (some ⟨g, 0, none⟩) n c 87 7 (pre ++ frC x a), Ent.row a.t x.nr x.nr 4 1 (x.set.map bv)]) (fun t S => t = .tup [] ∧ ([Ent.box bf 4 [bv (f0 && okS x.set (readsF i))], Ent.box bc 83 [.ep (.slice (some ⟨g, 0, none⟩) n c) pre.length], Ent.row (some ⟨g, 0, none⟩) n c 87 7 (pre ++ frC x a), Ent.row a.t x.nr x.nr 4 1 (x.set.map bv)]).Sublist S) := by
 refine ACalls.intro Try.func49 rfl Try.ntmps49 nB rfl fun X w0 => ?_
 refine rs ?_
 refine AWL.boxOp rfl rfl (B rfl) rfl (E rfl rfl) rfl (fun b2 => ?_)
 refine nl ?_
 refine rs (yf fo_58_0 ?_)
 refine yl ag_3 4 ?_
 refine AWL.callT rfl rfl (B rfl) rfl ce_57 (E rfl rfl) (evsC (E rfl rfl) evs0) (fields57 i.kind) ?_
 rintro t11 S11 rfl
 refine ym ?_
 refine Y1 (Yv.extract rfl eV rfl) ?_
 refine Y1 (Yv.extract rfl eV rfl) ?_
 refine AWL.allocOp rfl rfl (B rfl) rfl zc_122 (fun b4 => ?_)
 refine AWL.storeBox (i := 5) rfl rfl rfl ag_122 rfl (E rfl rfl) (E rfl rfl) rfl rfl nB ?_
 refine ya ?_
 refine AW.mid (α := Unit) (fun _ => [(1, true, .v (.func (.func 50) #[] #[.pointer (some ⟨bf, 0, none⟩), .pointer (some ⟨bc, 0, none⟩)])), (2, true, pv b2), (4, true, pv b4)]) (fun _ => [Ent.box bf 4 [bv (f0 && okS x.set (rd1 i))], Ent.box bc 83 [.ep (.slice (some ⟨g, 0, none⟩) n c) pre.length], Ent.row (some ⟨g, 0, none⟩) n c 87 7 (pre ++ frC x a), Ent.row a.t x.nr x.nr 4 1 (x.set.map bv)] ++ [Ent.box b2 58 (insCells i), Ent.box b4 122 (hasCells (hasF i.kind))]) (fun _ => True) ?_ ?_
 ·refine rs (yf fo_122_1 ?_)
  refine yl ag_4 5 (nl ?_)
  refine AW.cond rfl (fun h0t => ?_) (fun h0f => ?_)
  ·refine AW.region ?_
   refine ym ?_
   refine yf fo_58_2 ?_
   refine yl ag_3 4 ?_
   refine C1 rfl ce_50 (E rfl rfl) (evsC (E rfl rfl) evs0) (S1 := [Ent.box bf 4 [bv (f0)], Ent.box bc 83 [.ep (.slice (some ⟨g, 0, none⟩) n c) pre.length], Ent.row (some ⟨g, 0, none⟩) n c 87 7 (pre ++ frC x a), Ent.row a.t x.nr x.nr 4 1 (x.set.map bv)]) (S2 := _) rfl (do50 bf bc g n c pre x a (f0) i.a hl (hr _ (by rw [rd3_of, rd2_of, rd1_t h0t]; simp))) ?_
   rintro t19 S19 ⟨rfl, rfl⟩
   refine nl ?_
   refine ⟨(), trivial, (su (su (su sn))), ?_⟩
   rw [rd1_t h0t, okS_one]
   rfl
  refine AW.skip ?_
  refine ⟨(), trivial, (su (su (su sn))), ?_⟩
  rw [rd1_f h0f, okS_nil, Bool.and_true]
  try rfl
 rintro _ hmid
 refine AW.mid (α := Unit) (fun _ => [(1, true, .v (.func (.func 50) #[] #[.pointer (some ⟨bf, 0, none⟩), .pointer (some ⟨bc, 0, none⟩)])), (2, true, pv b2), (4, true, pv b4)]) (fun _ => [Ent.box bf 4 [bv (f0 && okS x.set (rd2 i))], Ent.box bc 83 [.ep (.slice (some ⟨g, 0, none⟩) n c) pre.length], Ent.row (some ⟨g, 0, none⟩) n c 87 7 (pre ++ frC x a), Ent.row a.t x.nr x.nr 4 1 (x.set.map bv)] ++ [Ent.box b2 58 (insCells i), Ent.box b4 122 (hasCells (hasF i.kind))]) (fun _ => True) ?_ ?_
 ·refine rs (yf fo_122_2 ?_)
  refine yl ag_4 5 (nl ?_)
  refine AW.cond rfl (fun h1t => ?_) (fun h1f => ?_)
  ·refine AW.region ?_
   refine ym ?_
   refine yf fo_58_3 ?_
   refine yl ag_3 4 ?_
   refine C1 rfl ce_50 (E rfl rfl) (evsC (E rfl rfl) evs0) (S1 := [Ent.box bf 4 [bv (f0 && okS x.set (rd1 i))], Ent.box bc 83 [.ep (.slice (some ⟨g, 0, none⟩) n c) pre.length], Ent.row (some ⟨g, 0, none⟩) n c 87 7 (pre ++ frC x a), Ent.row a.t x.nr x.nr 4 1 (x.set.map bv)]) (S2 := _) rfl (do50 bf bc g n c pre x a (f0 && okS x.set (rd1 i)) i.b hl (hr _ (by rw [rd3_of, rd2_t h1t]; simp))) ?_
   rintro t25 S25 ⟨rfl, rfl⟩
   refine nl ?_
   refine ⟨(), trivial, (su (su (su sn))), ?_⟩
   rw [rd2_t h1t, okS_app, okS_one, ← Bool.and_assoc]
   try rfl
  refine AW.skip ?_
  refine ⟨(), trivial, (su (su (su sn))), ?_⟩
  rw [rd2_f h1f]
  try rfl
 rintro _ hmid
 refine rs (yf fo_122_3 ?_)
 refine yl ag_4 5 (nl ?_)
 refine AW.cond rfl (fun h2t => ?_) (fun h2f => ?_)
 ·refine rs (yf fo_58_10 ?_)
  refine yl ag_47 4 ?_
  refine Y1 (Yv.lenSl rfl so_47 (B rfl) eV len_args) ?_
  refine ym (nl ?_)
  refine AW.block ?_
  refine AW.loop (fun (j : Nat) => [(1, true, .v (.func (.func 50) #[] #[.pointer (some ⟨bf, 0, none⟩), .pointer (some ⟨bc, 0, none⟩)])), (2, true, pv b2), (4, true, pv b4), (29, true, .sl 1 (i.args.map zi)), (30, true, .v (.int .i64 (i.args.length : Int))), (31, true, .v (.int .i64 (j : Int)))]) (fun (j : Nat) => ([Ent.box bf 4 [bv (f0 && okS x.set (rd2 i ++ i.args.take (j)))], Ent.box bc 83 [.ep (.slice (some ⟨g, 0, none⟩) n c) pre.length], Ent.row (some ⟨g, 0, none⟩) n c 87 7 (pre ++ frC x a), Ent.row a.t x.nr x.nr 4 1 (x.set.map bv)] ++ [Ent.box b2 58 (insCells i), Ent.box b4 122 (hasCells (hasF i.kind))])) (fun (j : Nat) => j ≤ i.args.length) (fun (j : Nat) => i.args.length - j) 0 ?_ ?_ ?_ ?_
  ·exact Nat.zero_le _
  ·exact (su (su (su (su (su (su sn))))))
  ·rw [List.take_zero, List.append_nil]
  intro j hinv
  refine rs (Y1 (Yv.lss rfl eV eV) (nl ?_))
  refine AW.seq ?_
  refine AW.cond rfl (fun h3t => ?_) (fun h3f => ?_)
  ·try replace h3t := odt h3t
   refine AW.skip ?_
   refine AW.seq ?_
   refine AW.block ?_
   refine rs (Y1 (Yv.indexSl rfl ss_47 (B rfl) eV eV (fun hg => ⟨rfl, (by first | omega | (simp only [len_code, len_funs, len_args, len_data, len_zw]; omega))⟩)) ?_)
   refine Y1 (Yv.loadRp rfl ag_3 eV (fun hg => arg_at (by omega))) ?_
   refine ya ?_
   refine AW.region ?_
   refine ym ?_
   refine ym ?_
   refine C1 rfl ce_50 (E rfl rfl) (evsC (E rfl rfl) evs0) (S1 := [Ent.box bf 4 [bv (f0 && okS x.set (rd2 i ++ i.args.take (j)))], Ent.box bc 83 [.ep (.slice (some ⟨g, 0, none⟩) n c) pre.length], Ent.row (some ⟨g, 0, none⟩) n c 87 7 (pre ++ frC x a), Ent.row a.t x.nr x.nr 4 1 (x.set.map bv)]) (S2 := _) rfl (do50 bf bc g n c pre x a (f0 && okS x.set (rd2 i ++ i.args.take (j))) (i.args.getD j default) hl (hr _ (by rw [rd3_t h2t]; exact List.mem_append_right _ (getD_mem (l := i.args) (j := j) (by omega))))) ?_
   rintro t37 S37 ⟨rfl, rfl⟩
   refine nl ?_
   refine AW.region ?_
   refine Y1 (Yv.addN_i64 rfl eV eV (fun hg => by omega)) ?_
   refine ym (nl ?_)
   refine ⟨j + 1, by omega, by omega, (su (su (su (su (su (Sub.cons rfl (by simp) Sub.nil)))))), ?_⟩
   rw [take_gd (show j < i.args.length by omega), ← List.append_assoc, okS_app x.set (rd2 i ++ i.args.take j) [i.args.getD j default], okS_one, ← Bool.and_assoc]
   try rfl
  try replace h3f := odf h3f
  refine AW.exit ?_
  refine retN .nil ?_
  obtain rfl : j = i.args.length := by omega
  rw [List.take_length, ← rd3_t h2t]
  exact ⟨rfl, List.sublist_append_left _ _⟩
 refine AW.skip ?_
 refine retN .nil ?_
 rw [rd3_f h2f]
 exact ⟨rfl, List.sublist_append_left _ _⟩

theorem reads49 (bf bc g n c : Nat) (pre : List T) (x : Fr) (a : FA) (f0 : Bool) (i : Ins) (hl : x.set.length = x.nr) (ha : i.args.length ≤ 1048576) (hr : ∀ r ∈ readsF i, 0 ≤ r ∧ r < (x.nr : Int)) : ACalls Try.prog 49 [.agg (insCells i), .v (.func (.func 50) #[] #[.pointer (some ⟨bf, 0, none⟩), .pointer (some ⟨bc, 0, none⟩)])] ([Ent.box bf 4 [bv (f0)], Ent.box bc 83 [.ep (.slice (some ⟨g, 0, none⟩) n c) pre.length], Ent.row (some ⟨g, 0, none⟩) n c 87 7 (pre ++ frC x a), Ent.row a.t x.nr x.nr 4 1 (x.set.map bv)]) (fun t S => t = .tup [] ∧ S = [Ent.box bf 4 [bv (f0 && okS x.set (readsF i))], Ent.box bc 83 [.ep (.slice (some ⟨g, 0, none⟩) n c) pre.length], Ent.row (some ⟨g, 0, none⟩) n c 87 7 (pre ++ frC x a), Ent.row a.t x.nr x.nr 4 1 (x.set.map bv)]) :=
 (reads49_ bf bc g n c pre x a f0 i hl ha hr).less fun t S' ⟨h1, h2⟩ => ⟨_, h2, h1, rfl⟩
end Go.Proofs.Ytlfklgganokgdaa

namespace Go.Proofs.Ytlfklgganokgdaa
open Go Go.RowKit

theorem top6 {pre : List T} {y x : Fr} {b a : FA} {k : Nat} (h : pre.length = k * 7) : (pre ++ frC y b ++ frC x a)[(k + 1) * 7 + 6]? = some (zi x.d) := by
 have h2 : (pre ++ frC y b).length = (k + 1) * 7 := by rw [List.length_append, h, frC_len]; omega
 rw [← h2]; exact fr6
theorem take_top {pre : List T} {y x : Fr} {b a : FA} {k : Nat} (h : pre.length = k * 7) : (pre ++ frC y b ++ frC x a).take ((k + 1) * 7) = pre ++ frC y b := by
 rw [List.take_left' (by rw [List.length_append, h, frC_len]; omega)]
set_option maxHeartbeats 2000000 in
theorem backOne (s g c : Nat) (ps : PS) (x : Fr) (a : FA) (v : Wd64) :
    ACalls Try.prog 63 [.v (.pointer (some ⟨s, 0, none⟩)), zw v] ([Ent.box s 80 (psC ps (.v (.slice (some ⟨g, 0, none⟩) 1 c))), Ent.row (some ⟨g, 0, none⟩) 1 c 87 7 (frC x a)]) (fun t S => t = .tup [] ∧ S = [Ent.box s 80 (psC (backP ps v) (.v (.slice (some ⟨g, 0, none⟩) 1 c))), Ent.row (some ⟨g, 0, none⟩) 1 c 87 7 (frC x a)]) := by
 refine ACalls.intro Try.func63 rfl Try.ntmps63 nB rfl fun X w0 => ?_
 refine AW.rseqQ rfl (by kernel_rfl) ?_
 refine qm ?_
 refine Q1 (Yv.nilChk rfl eV) ?_
 refine qf fo_80_6 ?_
 refine ql ag_78 0 ?_
 refine qm ?_
 refine Q1 (Yv.nilChk rfl eV) ?_
 refine qf fo_80_6 ?_
 refine ql ag_78 0 ?_
 refine Q1 (Yv.lenV rfl so_78 eV) ?_
 refine Q1 (Yv.subN_i64 rfl eV eV (fun hg => by omega)) ?_
 refine Q1 (Yv.indexRow (j := 0) rfl ss_78 (i := 1) rfl eV eV (fun hg => ⟨rfl, by omega⟩)) ?_
 refine Q1 (Yv.fieldEp rfl fo_87_6 eV) ?_
 refine Q1 (Yv.loadEp rfl ag_3 (i := 1) rfl eV (fun _ => rfl)) ?_
 refine Q1 (Yv.assign rfl eV) ?_
 refine AWQ.nil ?_
 refine AW.seq ?_
 refine rs (ym ?_)
 refine Y1 (Yv.nilChk rfl eV) ?_
 refine yf fo_80_6 ?_
 refine yl ag_78 0 ?_
 refine Y1 (Yv.lenV rfl so_78 eV) ?_
 refine ya ?_
 refine rs (ym ?_)
 refine Y1 (Yv.gtr rfl eV eV) (nl ?_)
 refine AW.cond rfl (fun h0t => ?_) (fun h0f => ?_)
 ·try replace h0t := odt h0t
  exfalso; omega
 try replace h0f := odf h0f
 refine AW.skip ?_
 refine AW.seq ?_
 refine rs (ym ?_)
 refine Y1 (Yv.nilChk rfl eV) ?_
 refine yf fo_80_7 ?_
 refine yl ag_4 0 (nl ?_)
 refine AW.cond rfl (fun h1t => ?_) (fun h1f => ?_)
 ·refine rs (ym ?_)
  refine ym ?_
  refine ym ?_
  refine Y1 (Yv.nilChk rfl eV) ?_
  refine yf fo_80_8 ?_
  refine AWL.storeBox (i := 0) rfl rfl rfl ag_3 rfl (E rfl rfl) (E rfl rfl) rfl rfl nB ?_
  refine Y1 (Yv.nilChk rfl eV) ?_
  refine yf fo_80_9 ?_
  refine AWL.storeBox (i := 0) rfl rfl rfl ag_39 rfl (E rfl rfl) (E rfl rfl) rfl rfl nB (nl ?_)
  refine AW.ret (retI .nil ?_)
  refine ⟨rfl, ?_⟩
  rw [backP, if_pos h1t]
  rfl
 refine AW.skip ?_
 refine AW.region ?_
 refine ym ?_
 refine ym ?_
 refine ym ?_
 refine Y1 (Yv.andW (b := 255#64) rfl eV eV) ?_
 refine Y1 (Yv.conv rfl Try.underlying39 kd_3 eV) ?_
 refine Y1 (Yv.nilChk rfl eV) ?_
 refine yf fo_80_8 ?_
 refine AWL.storeBox (i := 0) rfl rfl rfl ag_3 rfl (E rfl rfl) (E rfl rfl) rfl rfl nB ?_
 refine Y1 (Yv.nilChk rfl eV) ?_
 refine yf fo_80_10 ?_
 refine AWL.storeBox (i := 0) rfl rfl rfl ag_3 rfl (E rfl rfl) (E rfl rfl) rfl rfl nB (nl ?_)
 refine retN .nil ?_
 refine ⟨rfl, ?_⟩
 rw [backP, if_neg (by rw [h1f]; decide)]
 rfl

set_option maxHeartbeats 4000000 in
theorem backMore (s g c k : Nat) (ps : PS) (pre : List T) (y : Fr) (b : FA) (x : Fr) (a : FA) (v : Wd64) (hpre : pre.length = k * 7) (hk : k ≤ 1048576) (hy : FrOk y) (hd : 0 ≤ x.d ∧ x.d < (y.nr : Int)) :
    ACalls Try.prog 63 [.v (.pointer (some ⟨s, 0, none⟩)), zw v] ([Ent.box s 80 (psC ps (.v (.slice (some ⟨g, 0, none⟩) (k + 2) c))), Ent.row (some ⟨g, 0, none⟩) (k + 2) c 87 7 (pre ++ frC y b ++ frC x a)] ++ frR y b) (fun t S => t = .tup [] ∧ S = [Ent.box s 80 (psC ps (.v (.slice (some ⟨g, 0, none⟩) (k + 1) c))), Ent.row (some ⟨g, 0, none⟩) (k + 1) c 87 7 (pre ++ frC y b)] ++ frR (setD y x.d v) b) := by
 have hl1 := hy.r
 have hl2 := hy.t
 obtain ⟨hd0, hd1⟩ := hd
 refine ACalls.intro Try.func63 rfl Try.ntmps63 nB rfl fun X w0 => ?_
 refine AW.rseqQ rfl (by kernel_rfl) ?_
 refine qm ?_
 refine Q1 (Yv.nilChk rfl eV) ?_
 refine qf fo_80_6 ?_
 refine ql ag_78 0 ?_
 refine qm ?_
 refine Q1 (Yv.nilChk rfl eV) ?_
 refine qf fo_80_6 ?_
 refine ql ag_78 0 ?_
 refine Q1 (Yv.lenV rfl so_78 eV) ?_
 refine Q1 (Yv.subN_i64 rfl eV eV (fun hg => by omega)) ?_
 refine Q1 (Yv.indexRow (j := (k + 1)) rfl ss_78 (i := 1) rfl eV eV (fun hg => ⟨by omega, by omega⟩)) ?_
 refine Q1 (Yv.fieldEp rfl fo_87_6 eV) ?_
 refine Q1 (Yv.loadEp rfl ag_3 (i := 1) rfl eV (fun hg => (top6 hpre))) ?_
 refine Q1 (Yv.assign rfl eV) ?_
 refine AWQ.nil ?_
 refine AW.seq ?_
 refine rs (ym ?_)
 refine Y1 (Yv.nilChk rfl eV) ?_
 refine yf fo_80_6 ?_
 refine yl ag_78 0 ?_
 refine Y1 (Yv.lenV rfl so_78 eV) ?_
 refine ya ?_
 refine rs (ym ?_)
 refine Y1 (Yv.gtr rfl eV eV) (nl ?_)
 refine AW.cond rfl (fun h0t => ?_) (fun h0f => ?_)
 ·try replace h0t := odt h0t
  refine AW.rowLe 1 rfl (fun hkc => ?_)
  refine rs (ym ?_)
  refine ym ?_
  refine Y1 (Yv.nilChk rfl eV) ?_
  refine yf fo_80_6 ?_
  refine yl ag_78 0 ?_
  refine ym ?_
  refine Y1 (Yv.subN_i64 rfl eV eV (fun hg => by omega)) ?_
  refine Y1 (Yv.sliceRow0 (i := 1) (m := k + 1) rfl ss_78 rfl eV (Bound.some_ eV (fun hg => by omega)) (fun hg => by omega)) ?_
  refine Y1 (Yv.nilChk rfl eV) ?_
  refine yf fo_80_6 ?_
  refine AWL.storeBox (i := 0) rfl rfl rfl ag_78 rfl (E rfl rfl) (E rfl rfl) rfl rfl nB (nl ?_)
  refine AW.shrink 1 (k + 1) rfl (by omega) ?_
  refine AW.eqS (S' := [Ent.box s 80 (psC ps (.v (.slice (some ⟨g, 0, none⟩) (k + 1) c))), Ent.row (some ⟨g, 0, none⟩) (k + 1) c 87 7 (pre ++ frC y b)] ++ frR y b) (by
   rw [take_top hpre]
   rfl) ?_
  refine rs (ym ?_)
  refine Y1 (Yv.nilChk rfl eV) ?_
  refine yf fo_80_6 ?_
  refine yl ag_78 0 ?_
  refine ym ?_
  refine Y1 (Yv.subN_i64 rfl eV eV (fun hg => by omega)) ?_
  refine Y1 (Yv.indexRow (j := k) rfl ss_78 (i := 1) rfl eV eV (fun hg => ⟨by omega, by omega⟩)) ?_
  refine ya ?_
  refine AW.rseqH (HeldCs [(g, k * 7 + 2, Value.slice b.r y.nr y.nr), (g, k * 7 + 4, Value.slice b.t y.nr y.nr)]) rfl (tells_cs (tcR 1 rfl (hpre ▸ fr2) pinV (tcR 1 rfl (hpre ▸ fr4) pinV tc0))) ?_
  refine T2 (i := 0) rfl (heldAll (freeMove rfl (E rfl rfl))) ?_
  refine T2 (i := 1) rfl (heldAll (freeNilEp rfl (E rfl rfl))) ?_
  refine T2 (i := 2) rfl (heldAll (freeFieldEp rfl fo_87_2 (E rfl rfl))) ?_
  refine T2 (i := 3) rfl (heldE 0 rfl ag_84 (E rfl rfl) rfl (fun _ _ => .v _)) ?_
  refine T2 (i := 4) rfl (heldAll (freeMove rfl (E rfl rfl))) ?_
  refine T2 (i := 5) rfl (heldAll (freeMove rfl (E rfl rfl))) ?_
  refine T2 (i := 6) rfl (heldAll (freeNilEp rfl (E rfl rfl))) ?_
  refine T2 (i := 7) rfl (heldAll (freeFieldEp rfl fo_87_4 (E rfl rfl))) ?_
  refine T2 (i := 8) rfl (heldE 1 rfl ag_85 (E rfl rfl) rfl (fun _ _ => .v _)) ?_
  refine T2 (i := 9) rfl (heldAll (freeMove rfl (E rfl rfl))) ?_
  refine AWH.one (i := 10) (by kernel_rfl) rfl ?_
  refine ym ?_
  refine AWL.nil (kpH (tcR 1 rfl (hpre ▸ fr2) pinV (tcR 1 rfl (hpre ▸ fr4) pinV tc0)) ?_)
  refine AWH.one (i := 11) (by kernel_rfl) rfl ?_
  refine Y1 (Yv.indexRow (j := x.d.toNat) rfl ss_84 (i := 2) rfl eV eV (fun hg => ⟨(Int.toNat_of_nonneg hd0).symm, by omega⟩)) ?_
  refine AWL.nil (kpH (tcR 1 rfl (hpre ▸ fr2) pinV (tcR 1 rfl (hpre ▸ fr4) pinV tc0)) ?_)
  refine AWH.one (i := 12) (by kernel_rfl) rfl ?_
  refine AWL.storeEp1 (i := 2) rfl rfl rfl ag_39 rfl (E rfl rfl) (E rfl rfl) rfl rfl (by first | (rw [List.length_map]; omega) | omega) ?_
  refine AWL.nil (kpH (tcR 1 rfl (hpre ▸ fr2) pinV (tcR 1 rfl (hpre ▸ fr4) pinV tc0)) ?_)
  refine AWH.one (i := 13) (by kernel_rfl) rfl ?_
  refine Y1 (Yv.indexRow (j := x.d.toNat) rfl ss_85 (i := 4) rfl eV eV (fun hg => ⟨(Int.toNat_of_nonneg hd0).symm, by omega⟩)) ?_
  refine AWL.nil (kpH (tcR 1 rfl (hpre ▸ fr2) pinV (tcR 1 rfl (hpre ▸ fr4) pinV tc0)) ?_)
  refine AWH.one (i := 14) (by kernel_rfl) rfl ?_
  refine AWL.storeEp1 (i := 4) rfl rfl rfl ag_4 rfl (E rfl rfl) (E rfl rfl) rfl rfl (by first | (rw [List.length_map]; omega) | omega) ?_
  refine AWL.nil (kpH (tcR 1 rfl (hpre ▸ fr2) pinV (tcR 1 rfl (hpre ▸ fr4) pinV tc0)) ?_)
  refine AWH.done (by kernel_rfl) ?_
  refine AW.ret (retI .nil ?_)
  refine ⟨rfl, ?_⟩
  rw [setD_rows]
  rfl
 try replace h0f := odf h0f
 exfalso; omega

end Go.Proofs.Ytlfklgganokgdaa

namespace Go.Proofs.Ytlfklgganokgdaa
open Go Go.RowKit

set_option maxHeartbeats 2000000 in
theorem jumpsRetOne_ (s g c : Nat) (ps : PS) (x : Fr) (a : FA) (i : Ins) (hx : FrOk x) (hk : i.kind = 26) (ha : 0 ≤ i.a ∧ i.a < (x.nr : Int)) :
    ACalls Try.prog 52 [.v (.pointer (some ⟨s, 0, none⟩)), .ep (.slice (some ⟨g, 0, none⟩) 1 c) 0, .agg (insCells i)] ([Ent.box s 80 (psC ps (.v (.slice (some ⟨g, 0, none⟩) 1 c))), Ent.row (some ⟨g, 0, none⟩) 1 c 87 7 (frC x a)] ++ frR x a) (fun t S => t = bv true ∧ ([Ent.box s 80 (psC (backP ps (rA x i.a)) (.v (.slice (some ⟨g, 0, none⟩) 1 c))), Ent.row (some ⟨g, 0, none⟩) 1 c 87 7 (frC x a)] ++ frR x a).Sublist S) := by
 have hl1 := hx.r
 obtain ⟨ha0, ha1⟩ := ha
 refine ACalls.intro Try.func52 rfl Try.ntmps52 nB rfl fun X w0 => ?_
 refine rs ?_
 refine AWL.boxOp rfl rfl (B rfl) rfl (E rfl rfl) rfl (fun b5 => ?_)
 refine ya ?_
 refine AW.seq ?_
 refine rs (yf fo_58_0 ?_)
 refine yl ag_3 6 ?_
 refine Y1 (Yv.eql rfl eV eV) (nl ?_)
 refine AW.cond rfl (fun h0t => ?_) (fun h0f => ?_)
 ·try replace h0t := odt h0t
  refine AW.rseqP rfl ?_
  refine AWP.phase [true, true, true, true, true, true, true, true, true] 1 rfl (by kernel_rfl) (by kernel_rfl) ?_
  refine qm ?_
  refine qm ?_
  refine Q1 (Yv.nilChkEp rfl eV) ?_
  refine Q1 (Yv.fieldEp rfl fo_87_2 eV) ?_
  refine Q1 (Yv.loadEp rfl ag_84 (i := 1) rfl eV (fun _ => rfl)) ?_
  refine qf fo_58_2 ?_
  refine ql ag_3 6 ?_
  refine Q1 (Yv.indexRow (j := i.a.toNat) rfl ss_84 (i := 2) rfl eV eV (fun hg => ⟨(Int.toNat_of_nonneg ha0).symm, by omega⟩)) ?_
  refine Q1 (Yv.loadEp rfl ag_39 (i := 2) rfl eV (fun hg => word_at (by omega))) ?_
  refine AWQ.nil ?_
  refine p1 9 ?_
  refine C1 rfl ce_63 (E rfl rfl) (evsC (E rfl rfl) (evsC (E rfl rfl) evs0)) (S1 := [Ent.box s 80 (psC ps (.v (.slice (some ⟨g, 0, none⟩) 1 c))), Ent.row (some ⟨g, 0, none⟩) 1 c 87 7 (frC x a)]) (S2 := _) rfl (backOne s g c ps x a (rA x i.a)) ?_
  rintro t25 S25 ⟨rfl, rfl⟩
  refine nl ?_
  refine AWP.done (by kernel_rfl) ?_
  refine ra ?_
  refine AW.ret (retI (.tmp rfl .nil) ?_)
  exact ⟨rfl, List.sublist_append_left _ _⟩
 try replace h0f := odf h0f
 exfalso; omega

theorem jumpsRetOne (s g c : Nat) (ps : PS) (x : Fr) (a : FA) (i : Ins) (hx : FrOk x) (hk : i.kind = 26) (ha : 0 ≤ i.a ∧ i.a < (x.nr : Int)) : ACalls Try.prog 52 [.v (.pointer (some ⟨s, 0, none⟩)), .ep (.slice (some ⟨g, 0, none⟩) 1 c) 0, .agg (insCells i)] ([Ent.box s 80 (psC ps (.v (.slice (some ⟨g, 0, none⟩) 1 c))), Ent.row (some ⟨g, 0, none⟩) 1 c 87 7 (frC x a)] ++ frR x a) (fun t S => t = bv true ∧ S = [Ent.box s 80 (psC (backP ps (rA x i.a)) (.v (.slice (some ⟨g, 0, none⟩) 1 c))), Ent.row (some ⟨g, 0, none⟩) 1 c 87 7 (frC x a)] ++ frR x a) :=
 (jumpsRetOne_ s g c ps x a i hx hk ha).less fun t S' ⟨h1, h2⟩ => ⟨_, h2, h1, rfl⟩
set_option maxHeartbeats 2000000 in
theorem jumpsRetMore_ (s g c k : Nat) (ps : PS) (pre : List T) (y : Fr) (b : FA) (x : Fr) (a : FA) (i : Ins) (hpre : pre.length = k * 7) (hk : k ≤ 1048576) (hy : FrOk y) (hd : 0 ≤ x.d ∧ x.d < (y.nr : Int)) (hx : FrOk x) (hk : i.kind = 26) (ha : 0 ≤ i.a ∧ i.a < (x.nr : Int)) :
    ACalls Try.prog 52 [.v (.pointer (some ⟨s, 0, none⟩)), .ep (.slice (some ⟨g, 0, none⟩) (k + 2) c) (pre ++ frC y b).length, .agg (insCells i)] (([Ent.box s 80 (psC ps (.v (.slice (some ⟨g, 0, none⟩) (k + 2) c))), Ent.row (some ⟨g, 0, none⟩) (k + 2) c 87 7 (pre ++ frC y b ++ frC x a)] ++ frR y b) ++ frR x a) (fun t S => t = bv true ∧ ([Ent.box s 80 (psC ps (.v (.slice (some ⟨g, 0, none⟩) (k + 1) c))), Ent.row (some ⟨g, 0, none⟩) (k + 1) c 87 7 (pre ++ frC y b)] ++ frR (setD y x.d (rA x i.a)) b ++ frR x a).Sublist S) := by
 have hl1 := hx.r
 obtain ⟨ha0, ha1⟩ := ha
 refine ACalls.intro Try.func52 rfl Try.ntmps52 nB rfl fun X w0 => ?_
 refine rs ?_
 refine AWL.boxOp rfl rfl (B rfl) rfl (E rfl rfl) rfl (fun b5 => ?_)
 refine ya ?_
 refine AW.seq ?_
 refine rs (yf fo_58_0 ?_)
 refine yl ag_3 10 ?_
 refine Y1 (Yv.eql rfl eV eV) (nl ?_)
 refine AW.cond rfl (fun h0t => ?_) (fun h0f => ?_)
 ·try replace h0t := odt h0t
  refine AW.rseqP rfl ?_
  refine AWP.phase [true, true, true, true, true, true, true, true, true] 1 rfl (by kernel_rfl) (by kernel_rfl) ?_
  refine qm ?_
  refine qm ?_
  refine Q1 (Yv.nilChkEp rfl eV) ?_
  refine Q1 (Yv.fieldEp rfl fo_87_2 eV) ?_
  refine Q1 (Yv.loadEp rfl ag_84 (i := 1) rfl eV (fun hg => fr2)) ?_
  refine qf fo_58_2 ?_
  refine ql ag_3 10 ?_
  refine Q1 (Yv.indexRow (j := i.a.toNat) rfl ss_84 (i := 6) rfl eV eV (fun hg => ⟨(Int.toNat_of_nonneg ha0).symm, by omega⟩)) ?_
  refine Q1 (Yv.loadEp rfl ag_39 (i := 6) rfl eV (fun hg => word_at (by omega))) ?_
  refine AWQ.nil ?_
  refine p1 9 ?_
  refine C1 rfl ce_63 (E rfl rfl) (evsC (E rfl rfl) (evsC (E rfl rfl) evs0)) (S1 := [Ent.box s 80 (psC ps (.v (.slice (some ⟨g, 0, none⟩) (k + 2) c))), Ent.row (some ⟨g, 0, none⟩) (k + 2) c 87 7 (pre ++ frC y b ++ frC x a)] ++ frR y b) (S2 := _) rfl (backMore s g c k ps pre y b x a (rA x i.a) hpre (by assumption) hy hd) ?_
  rintro t25 S25 ⟨rfl, rfl⟩
  refine nl ?_
  refine AWP.done (by kernel_rfl) ?_
  refine ra ?_
  refine AW.ret (retI (.tmp rfl .nil) ?_)
  exact ⟨rfl, List.sublist_append_left _ _⟩
 try replace h0f := odf h0f
 exfalso; omega

theorem jumpsRetMore (s g c k : Nat) (ps : PS) (pre : List T) (y : Fr) (b : FA) (x : Fr) (a : FA) (i : Ins) (hpre : pre.length = k * 7) (hk : k ≤ 1048576) (hy : FrOk y) (hd : 0 ≤ x.d ∧ x.d < (y.nr : Int)) (hx : FrOk x) (hk : i.kind = 26) (ha : 0 ≤ i.a ∧ i.a < (x.nr : Int)) : ACalls Try.prog 52 [.v (.pointer (some ⟨s, 0, none⟩)), .ep (.slice (some ⟨g, 0, none⟩) (k + 2) c) (pre ++ frC y b).length, .agg (insCells i)] (([Ent.box s 80 (psC ps (.v (.slice (some ⟨g, 0, none⟩) (k + 2) c))), Ent.row (some ⟨g, 0, none⟩) (k + 2) c 87 7 (pre ++ frC y b ++ frC x a)] ++ frR y b) ++ frR x a) (fun t S => t = bv true ∧ S = [Ent.box s 80 (psC ps (.v (.slice (some ⟨g, 0, none⟩) (k + 1) c))), Ent.row (some ⟨g, 0, none⟩) (k + 1) c 87 7 (pre ++ frC y b)] ++ frR (setD y x.d (rA x i.a)) b ++ frR x a) :=
 (jumpsRetMore_ s g c k ps pre y b x a i hpre (by assumption) hy hd hx hk ha).less fun t S' ⟨h1, h2⟩ => ⟨_, h2, h1, rfl⟩
end Go.Proofs.Ytlfklgganokgdaa

namespace Go.Proofs.Ytlfklgganokgdaa
open Go Go.RowKit

theorem pmA {α : Type} {a0 a1 a2 a3 a4 a5 a6 a7 a8 : α} {Z : List α} : (a8 :: a6 :: a1 :: a4 :: a0 :: a2 :: a3 :: a5 :: a7 :: Z).Perm (a0 :: a1 :: a2 :: a3 :: a4 :: a5 :: a6 :: a7 :: a8 :: Z) :=
 ((((((((((((((((((((((List.Perm.refl _).cons a7)).cons a5)).cons a3)).cons a2)).cons a0)).cons a4)).trans (List.perm_middle (a := a4) (l₁ := [a0, a2, a3]) (l₂ := a5 :: a7 :: Z)).symm).cons a1)).trans (List.perm_middle (a := a1) (l₁ := [a0]) (l₂ := a2 :: a3 :: a4 :: a5 :: a7 :: Z)).symm).cons a6)).trans (List.perm_middle (a := a6) (l₁ := [a0, a1, a2, a3, a4, a5]) (l₂ := a7 :: Z)).symm).cons a8)).trans (List.perm_middle (a := a8) (l₁ := [a0, a1, a2, a3, a4, a5, a6, a7]) (l₂ := Z)).symm
theorem pmB {α : Type} {a0 a1 a2 a3 a4 a5 a6 a7 a8 : α} {Z : List α} : (a4 :: a2 :: a5 :: a6 :: a3 :: a7 :: a1 :: a8 :: a0 :: Z).Perm (a0 :: a1 :: a2 :: a3 :: a4 :: a5 :: a6 :: a7 :: a8 :: Z) :=
 ((((((((((((((((((((((((((List.Perm.refl _).cons a0)).cons a8)).trans (List.perm_middle (a := a8) (l₁ := [a0]) (l₂ := Z)).symm).cons a1)).trans (List.perm_middle (a := a1) (l₁ := [a0]) (l₂ := a8 :: Z)).symm).cons a7)).trans (List.perm_middle (a := a7) (l₁ := [a0, a1]) (l₂ := a8 :: Z)).symm).cons a3)).trans (List.perm_middle (a := a3) (l₁ := [a0, a1]) (l₂ := a7 :: a8 :: Z)).symm).cons a6)).trans (List.perm_middle (a := a6) (l₁ := [a0, a1, a3]) (l₂ := a7 :: a8 :: Z)).symm).cons a5)).trans (List.perm_middle (a := a5) (l₁ := [a0, a1, a3]) (l₂ := a6 :: a7 :: a8 :: Z)).symm).cons a2)).trans (List.perm_middle (a := a2) (l₁ := [a0, a1]) (l₂ := a3 :: a5 :: a6 :: a7 :: a8 :: Z)).symm).cons a4)).trans (List.perm_middle (a := a4) (l₁ := [a0, a1, a2, a3]) (l₂ := a5 :: a6 :: a7 :: a8 :: Z)).symm
set_option maxHeartbeats 16000000 in
theorem do32A_ (R : Int → Wd64 → Wd64 → Wd64) (s g n c : Nat) (ps : PS) (pre : List T) (x : Fr) (a : FA) (i : Ins) (hx : FrOk x) (hk : valK i.kind ∨ i.kind = 32) (ha : (hasF i.kind).a = true → 0 ≤ i.a ∧ i.a < (x.nr : Int)) (hb : (hasF i.kind).b = true → 0 ≤ i.b ∧ i.b < (x.nr : Int)) (hs : i.kind = 31 ∨ i.kind = 32 → 0 ≤ i.imm ∧ i.imm < (x.ns : Int)) (hR : i.kind = 16 → ACalls Try.prog 72 [zi i.real, zw (rA x i.a), zw (rA x i.b)] [] (fun t S => t = zw (R i.real (rA x i.a) (rA x i.b)))) (hd : (hasF i.kind).d = true → 0 ≤ i.d ∧ i.d < (x.nr : Int)) (hr : ∀ r ∈ readsF i, 0 ≤ r ∧ r < (x.nr : Int)) (hg : i.args.length ≤ 1048576) (hat : 0 ≤ x.at_ ∧ x.at_ ≤ 4611686018427387904) :
    ACalls Try.prog 32 [.v (.pointer (some ⟨s, 0, none⟩)), .ep (.slice (some ⟨g, 0, none⟩) n c) pre.length, .agg (insCells i)] ([Ent.box s 80 (psC ps (.v (.slice (some ⟨g, 0, none⟩) n c))), Ent.row (some ⟨g, 0, none⟩) n c 87 7 (pre ++ frC x a)] ++ frR x a) (fun t S => t = bv (stepA R ps.heap x i).isSome ∧ ([Ent.box s 80 (psC ps (.v (.slice (some ⟨g, 0, none⟩) n c))), Ent.row (some ⟨g, 0, none⟩) n c 87 7 (pre ++ frC ((stepA R ps.heap x i).getD x) a)] ++ frR ((stepA R ps.heap x i).getD x) a).Sublist S) := by
 have hl1 := hx.r
 have hl2 := hx.s
 have hl3 := hx.t
 have hl4 := hx.h
 obtain ⟨hat0, hat1⟩ := hat
 refine ACalls.intro Try.func32 rfl Try.ntmps32 nB rfl fun X w0 => ?_
 refine rs ?_
 refine AWL.boxOp rfl rfl (B rfl) rfl (E rfl rfl) rfl (fun b4 => ?_)
 refine AWL.boxOp rfl rfl (B rfl) rfl (E rfl rfl) rfl (fun b5 => ?_)
 refine ya ?_
 refine rs ?_
 refine AWL.allocOp rfl rfl (B rfl) rfl zc_4 (fun b7 => ?_)
 refine AWL.storeBox (i := 8) rfl rfl rfl ag_4 rfl (E rfl rfl) (E rfl rfl) rfl rfl nB (nl ?_)
 refine rs (Y1 (Yv.loadBoxA rfl ag_58 (i := 7) rfl eV rfl rfl) ?_)
 refine Y1 (Yv.makeFunc rfl evs0 rfl (evsC eV (evsC eV evs0)) rfl) ?_
 refine AWL.perm (S' := [Ent.box b7 4 [bv (true)], Ent.box b4 83 [.ep (.slice (some ⟨g, 0, none⟩) n c) pre.length], Ent.row (some ⟨g, 0, none⟩) n c 87 7 (pre ++ frC x a), Ent.row a.t x.nr x.nr 4 1 (x.set.map bv)] ++ [Ent.box s 80 (psC ps (.v (.slice (some ⟨g, 0, none⟩) n c))), Ent.row a.r x.nr x.nr 39 1 (x.r.map zw), Ent.row a.s x.ns x.ns 39 1 (x.slot.map zw), Ent.row a.h x.ns x.ns 4 1 (x.there.map bv), Ent.box b5 58 (insCells i)]) pmA ?_
 refine C1 rfl ce_49 (E rfl rfl) (evsC (E rfl rfl) (evsC (E rfl rfl) evs0)) (S1 := [Ent.box b7 4 [bv (true)], Ent.box b4 83 [.ep (.slice (some ⟨g, 0, none⟩) n c) pre.length], Ent.row (some ⟨g, 0, none⟩) n c 87 7 (pre ++ frC x a), Ent.row a.t x.nr x.nr 4 1 (x.set.map bv)]) (S2 := _) rfl (reads49 b7 b4 g n c pre x a true i hx.t hg hr) ?_
 rintro t14 S14 ⟨rfl, rfl⟩
 refine AWL.perm (S' := [Ent.box s 80 (psC ps (.v (.slice (some ⟨g, 0, none⟩) n c))), Ent.row (some ⟨g, 0, none⟩) n c 87 7 (pre ++ frC x a)] ++ frR x a ++ [Ent.box b4 83 [.ep (.slice (some ⟨g, 0, none⟩) n c) pre.length], Ent.box b5 58 (insCells i), Ent.box b7 4 [bv (okS x.set (readsF i))]]) pmB (nl ?_)
 refine AW.seq ?_
 refine rs (yl ag_4 8 ?_)
 refine Y1 (Yv.not rfl eV) (nl ?_)
 refine AW.cond rfl (fun h0t => ?_) (fun h0f => ?_)
 ·refine ra ?_
  refine AW.ret (retI (.tmp rfl .nil) ?_)
  rw [stepA_0 (by simpa using h0t)]
  exact ⟨rfl, List.sublist_append_left _ _⟩
 have hok : okS x.set (readsF i) = true := by simpa using h0f
 refine AW.skip ?_
 refine rs (Y1 (Yv.assign rfl eV) ?_)
 refine ya ?_
 refine AW.mid (α := (Wd64 × Bool × Fr)) (fun y => [(0, true, pv s), (4, true, pv b4), (5, true, pv b5), (8, true, zw y.1), (9, true, bv y.2.1)]) (fun y => ([Ent.box s 80 (psC ps (.v (.slice (some ⟨g, 0, none⟩) n c))), Ent.row (some ⟨g, 0, none⟩) n c 87 7 (pre ++ frC y.2.2 a)] ++ frR y.2.2 a) ++ [Ent.box b4 83 [.ep (.slice (some ⟨g, 0, none⟩) n c) pre.length], Ent.box b5 58 (insCells i), Ent.box b7 4 [bv (okS x.set (readsF i))]]) (fun y => midA R ps.heap x i y.1 y.2.1 y.2.2) ?_ ?_
 ·refine rs (yf fo_58_0 ?_)
  refine yl ag_3 7 (nl ?_)
  refine AW.block ?_
  refine rs (Y1 (Yv.eql rfl eV eV) ?_)
  refine ya ?_
  refine AW.cond rfl (fun h1t => ?_) (fun h1f => ?_)
  ·try replace h1t := odt h1t
   exfalso; unfold valK at hk; omega
  try replace h1f := odf h1f
  refine rs (Y1 (Yv.eql rfl eV eV) ?_)
  refine ya ?_
  refine AW.cond rfl (fun h2t => ?_) (fun h2f => ?_)
  ·try replace h2t := odt h2t
   exfalso; unfold valK at hk; omega
  try replace h2f := odf h2f
  refine AW.seq ?_
  refine rs (Y1 (Yv.eql rfl eV eV) ?_)
  refine ya ?_
  refine AW.cond rfl (fun h3t => ?_) (fun h3f => ?_)
  ·try replace h3t := odt h3t
   exfalso; unfold valK at hk; omega
  try replace h3f := odf h3f
  refine rs (Y1 (Yv.eql rfl eV eV) ?_)
  refine ya ?_
  refine AW.cond rfl (fun h4t => ?_) (fun h4f => ?_)
  ·try replace h4t := odt h4t
   exfalso; unfold valK at hk; omega
  try replace h4f := odf h4f
  refine rs (Y1 (Yv.eql rfl eV eV) ?_)
  refine ya ?_
  refine AW.cond rfl (fun h5t => ?_) (fun h5f => ?_)
  ·try replace h5t := odt h5t
   exfalso; unfold valK at hk; omega
  try replace h5f := odf h5f
  refine rs (Y1 (Yv.eql rfl eV eV) ?_)
  refine ya ?_
  refine AW.cond rfl (fun h6t => ?_) (fun h6f => ?_)
  ·try replace h6t := odt h6t
   exfalso; unfold valK at hk; omega
  try replace h6f := odf h6f
  refine AW.region ?_
  refine Y1 (Yv.eql rfl eV eV) ?_
  refine ya ?_
  refine AW.cond rfl (fun h7t => ?_) (fun h7f => ?_)
  ·try replace h7t := odt h7t
   exfalso; unfold valK at hk; omega
  try replace h7f := odf h7f
  refine rs (Y1 (Yv.eql rfl eV eV) ?_)
  refine ya ?_
  refine AW.cond rfl (fun h8t => ?_) (fun h8f => ?_)
  ·try replace h8t := odt h8t
   exfalso; unfold valK at hk; omega
  try replace h8f := odf h8f
  refine rs (Y1 (Yv.eql rfl eV eV) ?_)
  refine ya ?_
  refine AW.cond rfl (fun h9t => ?_) (fun h9f => ?_)
  ·try replace h9t := odt h9t
   obtain ⟨hs0, hs1⟩ := hs (.inr h9t)
   obtain ⟨ha0, ha1⟩ := ha (by rw [h9t]; rfl)
   refine AW.regionH (HeldCs [(b4, 0, Value.pointer (some ⟨g, pre.length, none⟩)), (g, pre.length + 3, Value.slice a.s x.ns x.ns), (b5, 9, Value.int .i64 i.imm), (g, pre.length + 5, Value.slice a.h x.ns x.ns), (g, pre.length + 2, Value.slice a.r x.nr x.nr), (b5, 2, Value.int .i64 i.a)]) rfl (tells_cs (tcB 6 rfl rfl pinE (tcR 1 rfl fr3 pinV (tcB 7 rfl rfl pinV (tcR 1 rfl fr5 pinV (tcR 1 rfl fr2 pinV (tcB 7 rfl rfl pinV tc0))))))) ?_
   refine T2 (i := 0) rfl (heldB (r := .ep (.slice (some ⟨g, 0, none⟩) n c) pre.length) 0 rfl ag_83 (E rfl rfl) rfl (fun _ _ => .ep)) ?_
   refine T2 (i := 1) rfl (heldAll (freeNilEp rfl (E rfl rfl))) ?_
   refine T2 (i := 2) rfl (heldAll (freeFieldEp rfl fo_87_3 (E rfl rfl))) ?_
   refine T2 (i := 3) rfl (heldE 1 rfl ag_84 (E rfl rfl) rfl (fun _ _ => .v _)) ?_
   refine T2 (i := 4) rfl (heldAll (freeField rfl fo_58_9 (E rfl rfl))) ?_
   refine T2 (i := 5) rfl (heldB 2 rfl ag_2 (E rfl rfl) rfl (fun _ _ => .v _)) ?_
   refine T2 (i := 6) rfl (heldB (r := .ep (.slice (some ⟨g, 0, none⟩) n c) pre.length) 0 rfl ag_83 (E rfl rfl) rfl (fun _ _ => .ep)) ?_
   refine T2 (i := 7) rfl (heldAll (freeNilEp rfl (E rfl rfl))) ?_
   refine T2 (i := 8) rfl (heldAll (freeFieldEp rfl fo_87_5 (E rfl rfl))) ?_
   refine T2 (i := 9) rfl (heldE 3 rfl ag_85 (E rfl rfl) rfl (fun _ _ => .v _)) ?_
   refine T2 (i := 10) rfl (heldAll (freeField rfl fo_58_9 (E rfl rfl))) ?_
   refine T2 (i := 11) rfl (heldB 2 rfl ag_2 (E rfl rfl) rfl (fun _ _ => .v _)) ?_
   refine T2 (i := 12) rfl (heldB (r := .ep (.slice (some ⟨g, 0, none⟩) n c) pre.length) 0 rfl ag_83 (E rfl rfl) rfl (fun _ _ => .ep)) ?_
   refine T2 (i := 13) rfl (heldAll (freeNilEp rfl (E rfl rfl))) ?_
   refine T2 (i := 14) rfl (heldAll (freeFieldEp rfl fo_87_2 (E rfl rfl))) ?_
   refine T2 (i := 15) rfl (heldE 4 rfl ag_84 (E rfl rfl) rfl (fun _ _ => .v _)) ?_
   refine AWH.one (i := 16) (by kernel_rfl) rfl ?_
   refine yf fo_58_2 ?_
   refine AWL.nil (kpH (tcB 6 rfl rfl pinE (tcR 1 rfl fr3 pinV (tcB 7 rfl rfl pinV (tcR 1 rfl fr5 pinV (tcR 1 rfl fr2 pinV (tcB 7 rfl rfl pinV tc0)))))) ?_)
   refine AWH.one (i := 17) (by kernel_rfl) rfl ?_
   refine yl ag_3 7 ?_
   refine AWL.nil (kpH (tcB 6 rfl rfl pinE (tcR 1 rfl fr3 pinV (tcB 7 rfl rfl pinV (tcR 1 rfl fr5 pinV (tcR 1 rfl fr2 pinV (tcB 7 rfl rfl pinV tc0)))))) ?_)
   refine AWH.one (i := 18) (by kernel_rfl) rfl ?_
   refine Y1 (Yv.indexRow (j := i.a.toNat) rfl ss_84 (i := 2) rfl eV eV (fun hg => ⟨(Int.toNat_of_nonneg ha0).symm, show i.a.toNat < x.nr by omega⟩)) ?_
   refine AWL.nil (kpH (tcB 6 rfl rfl pinE (tcR 1 rfl fr3 pinV (tcB 7 rfl rfl pinV (tcR 1 rfl fr5 pinV (tcR 1 rfl fr2 pinV (tcB 7 rfl rfl pinV tc0)))))) ?_)
   refine AWH.one (i := 19) (by kernel_rfl) rfl ?_
   refine Y1 (Yv.loadEp rfl ag_39 (i := 2) rfl eV (fun hg => word_at (by omega))) ?_
   refine AWL.nil (kpH (tcB 6 rfl rfl pinE (tcR 1 rfl fr3 pinV (tcB 7 rfl rfl pinV (tcR 1 rfl fr5 pinV (tcR 1 rfl fr2 pinV (tcB 7 rfl rfl pinV tc0)))))) ?_)
   refine AWH.one (i := 20) (by kernel_rfl) rfl ?_
   refine Y1 (Yv.indexRow (j := i.imm.toNat) rfl ss_84 (i := 3) rfl eV eV (fun hg => ⟨(Int.toNat_of_nonneg hs0).symm, show i.imm.toNat < x.ns by omega⟩)) ?_
   refine AWL.nil (kpH (tcB 6 rfl rfl pinE (tcR 1 rfl fr3 pinV (tcB 7 rfl rfl pinV (tcR 1 rfl fr5 pinV (tcR 1 rfl fr2 pinV (tcB 7 rfl rfl pinV tc0)))))) ?_)
   refine AWH.one (i := 21) (by kernel_rfl) rfl ?_
   refine AWL.storeEp1 (i := 3) rfl rfl rfl ag_39 rfl (E rfl rfl) (E rfl rfl) rfl rfl (by first | (rw [List.length_map]; omega) | omega) ?_
   refine AWL.nil (kpH (tcB 6 rfl rfl pinE (tcR 1 rfl fr3 pinV (tcB 7 rfl rfl pinV (tcR 1 rfl fr5 pinV (tcR 1 rfl fr2 pinV (tcB 7 rfl rfl pinV tc0)))))) ?_)
   refine AWH.one (i := 22) (by kernel_rfl) rfl ?_
   refine Y1 (Yv.indexRow (j := i.imm.toNat) rfl ss_85 (i := 5) rfl eV eV (fun hg => ⟨(Int.toNat_of_nonneg hs0).symm, show i.imm.toNat < x.ns by omega⟩)) ?_
   refine AWL.nil (kpH (tcB 6 rfl rfl pinE (tcR 1 rfl fr3 pinV (tcB 7 rfl rfl pinV (tcR 1 rfl fr5 pinV (tcR 1 rfl fr2 pinV (tcB 7 rfl rfl pinV tc0)))))) ?_)
   refine AWH.one (i := 23) (by kernel_rfl) rfl ?_
   refine AWL.storeEp1 (i := 5) rfl rfl rfl ag_4 rfl (E rfl rfl) (E rfl rfl) rfl rfl (by first | (rw [List.length_map]; omega) | omega) ?_
   refine AWL.nil (kpH (tcB 6 rfl rfl pinE (tcR 1 rfl fr3 pinV (tcB 7 rfl rfl pinV (tcR 1 rfl fr5 pinV (tcR 1 rfl fr2 pinV (tcB 7 rfl rfl pinV tc0)))))) ?_)
   refine AWH.done (by kernel_rfl) ?_
   refine ⟨(0#64, true, putF x i), .inl ⟨h9t, rfl, rfl⟩, (su (su (su (su (su sn))))), ?_⟩
   rw [putF_rows]
   rfl
  try replace h9f := odf h9f
  refine rs (Y1 (Yv.eql rfl eV eV) ?_)
  refine ya ?_
  refine AW.cond rfl (fun h10t => ?_) (fun h10f => ?_)
  ·try replace h10t := odt h10t
   exfalso; unfold valK at hk; omega
  try replace h10f := odf h10f
  refine rs (Y1 (Yv.eql rfl eV eV) ?_)
  refine ya ?_
  refine AW.cond rfl (fun h11t => ?_) (fun h11f => ?_)
  ·try replace h11t := odt h11t
   exfalso; unfold valK at hk; omega
  try replace h11f := odf h11f
  have hkv : valK i.kind := by
   rcases hk with h | h
   ·exact h
   ·omega
  refine AW.region ?_
  refine ym ?_
  refine yl ag_83 6 ?_
  refine Y1 (Yv.loadBoxA rfl ag_58 (i := 7) rfl eV rfl rfl) ?_
  refine C1 rfl ce_56 (E rfl rfl) (evsC (E rfl rfl) (evsC (E rfl rfl) (evsC (E rfl rfl) evs0))) (S1 := [Ent.box s 80 (psC ps (.v (.slice (some ⟨g, 0, none⟩) n c))), Ent.row (some ⟨g, 0, none⟩) n c 87 7 (pre ++ frC x a)] ++ frR x a) (S2 := _) rfl (value56 R s g n c ps pre x a i hx hkv ha hb (fun h => hs (.inl h)) hR) ?_
  rintro t23 S23 ⟨rfl, rfl⟩
  refine ym ?_
  refine Y1 (Yv.extract rfl eV rfl) ?_
  refine Y1 (Yv.extract rfl eV rfl) ?_
  refine Y1 (Yv.assign rfl eV) ?_
  refine ya ?_
  exact ⟨((valueF R ps.heap x i).1, (valueF R ps.heap x i).2, x), .inr ⟨hkv, rfl, rfl, rfl⟩, (su (su (su (su (su sn))))), rfl⟩
 rintro ⟨v, ok, x1⟩ hm
 dsimp only at hm
 show AW _ _ _ [(0, true, pv s), (4, true, pv b4), (5, true, pv b5), (8, true, zw v), (9, true, bv ok)] (([Ent.box s 80 (psC ps (.v (.slice (some ⟨g, 0, none⟩) n c))), Ent.row (some ⟨g, 0, none⟩) n c 87 7 (pre ++ frC x1 a)] ++ frR x1 a) ++ [Ent.box b4 83 [.ep (.slice (some ⟨g, 0, none⟩) n c) pre.length], Ent.box b5 58 (insCells i), Ent.box b7 4 [bv (okS x.set (readsF i))]])
 obtain ⟨hx1, hnr, hat3⟩ := midA_ok hm hx
 have hm1 := hx1.r
 have hm3 := hx1.t
 refine AW.seq ?_
 refine rs (ym ?_)
 refine Y1 (Yv.not rfl eV) (nl ?_)
 refine AW.cond rfl (fun h12t => ?_) (fun h12f => ?_)
 ·refine ra ?_
  refine AW.ret (retI (.tmp rfl .nil) ?_)
  obtain ⟨e1, e2⟩ := stepA_1 hok hm (by simpa using h12t)
  rw [e1]
  subst e2
  exact ⟨rfl, List.sublist_append_left _ _⟩
 refine AW.skip ?_
 refine AW.seq ?_
 refine rs (yf fo_58_0 ?_)
 refine yl ag_3 7 ?_
 refine AWL.callT rfl rfl (B rfl) rfl ce_57 (E rfl rfl) (evsC (E rfl rfl) evs0) (fields57 i.kind) ?_
 rintro t188 S188 rfl
 refine ym ?_
 refine Y1 (Yv.extract rfl eV rfl) ?_
 refine Y1 (Yv.extract rfl eV rfl) ?_
 refine AWL.allocOp rfl rfl (B rfl) rfl zc_122 (fun b10 => ?_)
 refine AWL.storeBox (i := 9) rfl rfl rfl ag_122 rfl (E rfl rfl) (E rfl rfl) rfl rfl nB ?_
 refine ya ?_
 refine rs (yf fo_122_0 ?_)
 refine yl ag_4 9 (nl ?_)
 refine AW.cond rfl (fun h13t => ?_) (fun h13f => ?_)
 ·obtain ⟨hd0, hd1⟩ := hd h13t
  refine AW.regionH (HeldCs [(b4, 0, Value.pointer (some ⟨g, pre.length, none⟩)), (g, pre.length + 2, Value.slice a.r x1.nr x1.nr), (b5, 1, Value.int .i64 i.d), (g, pre.length + 4, Value.slice a.t x1.nr x1.nr)]) rfl (tells_cs (tcB 6 rfl rfl pinE (tcR 1 rfl fr2 pinV (tcB 7 rfl rfl pinV (tcR 1 rfl fr4 pinV tc0))))) ?_
  refine T2 (i := 0) rfl (heldB (r := .ep (.slice (some ⟨g, 0, none⟩) n c) pre.length) 0 rfl ag_83 (E rfl rfl) rfl (fun _ _ => .ep)) ?_
  refine T2 (i := 1) rfl (heldAll (freeNilEp rfl (E rfl rfl))) ?_
  refine T2 (i := 2) rfl (heldAll (freeFieldEp rfl fo_87_2 (E rfl rfl))) ?_
  refine T2 (i := 3) rfl (heldE 1 rfl ag_84 (E rfl rfl) rfl (fun _ _ => .v _)) ?_
  refine T2 (i := 4) rfl (heldAll (freeField rfl fo_58_1 (E rfl rfl))) ?_
  refine T2 (i := 5) rfl (heldB 2 rfl ag_3 (E rfl rfl) rfl (fun _ _ => .v _)) ?_
  refine T2 (i := 6) rfl (heldB (r := .ep (.slice (some ⟨g, 0, none⟩) n c) pre.length) 0 rfl ag_83 (E rfl rfl) rfl (fun _ _ => .ep)) ?_
  refine T2 (i := 7) rfl (heldAll (freeNilEp rfl (E rfl rfl))) ?_
  refine T2 (i := 8) rfl (heldAll (freeFieldEp rfl fo_87_4 (E rfl rfl))) ?_
  refine T2 (i := 9) rfl (heldE 3 rfl ag_85 (E rfl rfl) rfl (fun _ _ => .v _)) ?_
  refine T2 (i := 10) rfl (heldAll (freeField rfl fo_58_1 (E rfl rfl))) ?_
  refine T2 (i := 11) rfl (heldB 2 rfl ag_3 (E rfl rfl) rfl (fun _ _ => .v _)) ?_
  refine AWH.one (i := 12) (by kernel_rfl) rfl ?_
  refine ym ?_
  refine AWL.nil (kpH (tcB 6 rfl rfl pinE (tcR 1 rfl fr2 pinV (tcB 7 rfl rfl pinV (tcR 1 rfl fr4 pinV tc0)))) ?_)
  refine AWH.one (i := 13) (by kernel_rfl) rfl ?_
  refine Y1 (Yv.indexRow (j := i.d.toNat) rfl ss_84 (i := 2) rfl eV eV (fun hg => ⟨(Int.toNat_of_nonneg hd0).symm, show i.d.toNat < x1.nr by omega⟩)) ?_
  refine AWL.nil (kpH (tcB 6 rfl rfl pinE (tcR 1 rfl fr2 pinV (tcB 7 rfl rfl pinV (tcR 1 rfl fr4 pinV tc0)))) ?_)
  refine AWH.one (i := 14) (by kernel_rfl) rfl ?_
  refine AWL.storeEp1 (i := 2) rfl rfl rfl ag_39 rfl (E rfl rfl) (E rfl rfl) rfl rfl (by first | (rw [List.length_map]; omega) | omega) ?_
  refine AWL.nil (kpH (tcB 6 rfl rfl pinE (tcR 1 rfl fr2 pinV (tcB 7 rfl rfl pinV (tcR 1 rfl fr4 pinV tc0)))) ?_)
  refine AWH.one (i := 15) (by kernel_rfl) rfl ?_
  refine Y1 (Yv.indexRow (j := i.d.toNat) rfl ss_85 (i := 4) rfl eV eV (fun hg => ⟨(Int.toNat_of_nonneg hd0).symm, show i.d.toNat < x1.nr by omega⟩)) ?_
  refine AWL.nil (kpH (tcB 6 rfl rfl pinE (tcR 1 rfl fr2 pinV (tcB 7 rfl rfl pinV (tcR 1 rfl fr4 pinV tc0)))) ?_)
  refine AWH.one (i := 16) (by kernel_rfl) rfl ?_
  refine AWL.storeEp1 (i := 4) rfl rfl rfl ag_4 rfl (E rfl rfl) (E rfl rfl) rfl rfl (by first | (rw [List.length_map]; omega) | omega) ?_
  refine AWL.nil (kpH (tcB 6 rfl rfl pinE (tcR 1 rfl fr2 pinV (tcB 7 rfl rfl pinV (tcR 1 rfl fr4 pinV tc0)))) ?_)
  refine AWH.done (by kernel_rfl) ?_
  refine rs (yl ag_83 6 ?_)
  refine Y1 (Yv.nilChkEp rfl eV) ?_
  refine Y1 (Yv.fieldEp rfl fo_87_1 eV) ?_
  refine Y1 (Yv.loadEp rfl ag_3 (i := 1) rfl eV (fun hg => fr1)) ?_
  refine Y1 (Yv.addN_i64 rfl eV eV (fun hg => by omega)) ?_
  refine Y1 (Yv.nilChkEp rfl eV) ?_
  refine Y1 (Yv.fieldEp rfl fo_87_1 eV) ?_
  refine AWL.storeEp1 (i := 1) rfl rfl rfl ag_3 rfl (E rfl rfl) (E rfl rfl) rfl rfl (by rw [fr_len]; omega) (nl ?_)
  refine ra ?_
  refine AW.ret (retI (.tmp rfl .nil) ?_)
  rw [stepA_2 hok hm (by simpa using h12f) h13t]
  refine ⟨rfl, ?_⟩
  refine (List.sublist_append_left ([Ent.box s 80 (psC ps (.v (.slice (some ⟨g, 0, none⟩) n c))), Ent.row (some ⟨g, 0, none⟩) n c 87 7 (pre ++ frC (goF (setD x1 i.d v)) a)] ++ frR (goF (setD x1 i.d v)) a) [Ent.box b4 83 [.ep (.slice (some ⟨g, 0, none⟩) n c) pre.length], Ent.box b5 58 (insCells i), Ent.box b7 4 [bv (okS x.set (readsF i))], Ent.box b10 122 (hasCells (hasF i.kind))]).trans ?_
  rw [show frR (goF (setD x1 i.d v)) a = frR (setD x1 i.d v) a from rfl, setD_rows, show frC (goF (setD x1 i.d v)) a = frC (goF x1) a from rfl, show goF x1 = { x1 with at_ := x1.at_ + 1 } from rfl, ← fr_jump]
  exact List.Sublist.refl _
 refine AW.skip ?_
 refine rs (yl ag_83 6 ?_)
 refine Y1 (Yv.nilChkEp rfl eV) ?_
 refine Y1 (Yv.fieldEp rfl fo_87_1 eV) ?_
 refine Y1 (Yv.loadEp rfl ag_3 (i := 1) rfl eV (fun hg => fr1)) ?_
 refine Y1 (Yv.addN_i64 rfl eV eV (fun hg => by omega)) ?_
 refine Y1 (Yv.nilChkEp rfl eV) ?_
 refine Y1 (Yv.fieldEp rfl fo_87_1 eV) ?_
 refine AWL.storeEp1 (i := 1) rfl rfl rfl ag_3 rfl (E rfl rfl) (E rfl rfl) rfl rfl (by rw [fr_len]; omega) (nl ?_)
 refine ra ?_
 refine AW.ret (retI (.tmp rfl .nil) ?_)
 rw [stepA_3 hok hm h13f]
 refine ⟨rfl, ?_⟩
 refine (List.sublist_append_left ([Ent.box s 80 (psC ps (.v (.slice (some ⟨g, 0, none⟩) n c))), Ent.row (some ⟨g, 0, none⟩) n c 87 7 (pre ++ frC (goF x1) a)] ++ frR (goF x1) a) [Ent.box b4 83 [.ep (.slice (some ⟨g, 0, none⟩) n c) pre.length], Ent.box b5 58 (insCells i), Ent.box b7 4 [bv (okS x.set (readsF i))], Ent.box b10 122 (hasCells (hasF i.kind))]).trans ?_
 rw [show goF x1 = { x1 with at_ := x1.at_ + 1 } from rfl, ← fr_jump]
 exact List.Sublist.refl _

theorem do32A (R : Int → Wd64 → Wd64 → Wd64) (s g n c : Nat) (ps : PS) (pre : List T) (x : Fr) (a : FA) (i : Ins) (hx : FrOk x) (hk : valK i.kind ∨ i.kind = 32) (ha : (hasF i.kind).a = true → 0 ≤ i.a ∧ i.a < (x.nr : Int)) (hb : (hasF i.kind).b = true → 0 ≤ i.b ∧ i.b < (x.nr : Int)) (hs : i.kind = 31 ∨ i.kind = 32 → 0 ≤ i.imm ∧ i.imm < (x.ns : Int)) (hR : i.kind = 16 → ACalls Try.prog 72 [zi i.real, zw (rA x i.a), zw (rA x i.b)] [] (fun t S => t = zw (R i.real (rA x i.a) (rA x i.b)))) (hd : (hasF i.kind).d = true → 0 ≤ i.d ∧ i.d < (x.nr : Int)) (hr : ∀ r ∈ readsF i, 0 ≤ r ∧ r < (x.nr : Int)) (hg : i.args.length ≤ 1048576) (hat : 0 ≤ x.at_ ∧ x.at_ ≤ 4611686018427387904) : ACalls Try.prog 32 [.v (.pointer (some ⟨s, 0, none⟩)), .ep (.slice (some ⟨g, 0, none⟩) n c) pre.length, .agg (insCells i)] ([Ent.box s 80 (psC ps (.v (.slice (some ⟨g, 0, none⟩) n c))), Ent.row (some ⟨g, 0, none⟩) n c 87 7 (pre ++ frC x a)] ++ frR x a) (fun t S => t = bv (stepA R ps.heap x i).isSome ∧ S = ([Ent.box s 80 (psC ps (.v (.slice (some ⟨g, 0, none⟩) n c))), Ent.row (some ⟨g, 0, none⟩) n c 87 7 (pre ++ frC ((stepA R ps.heap x i).getD x) a)] ++ frR ((stepA R ps.heap x i).getD x) a)) :=
 (do32A_ R s g n c ps pre x a i hx hk ha hb hs hR hd hr hg hat).less fun t S' ⟨h1, h2⟩ => ⟨_, h2, h1, rfl⟩
end Go.Proofs.Ytlfklgganokgdaa

namespace Go.Proofs.Ytlfklgganokgdaa
open Go Go.RowKit

theorem pmA0 {α : Type} {a0 a1 a2 a3 a4 a5 a6 a7 a8 : α} {Z : List α} : (a8 :: a6 :: a1 :: a4 :: a0 :: a2 :: a3 :: a5 :: a7 :: Z).Perm (a0 :: a1 :: a2 :: a3 :: a4 :: a5 :: a6 :: a7 :: a8 :: Z) :=
 ((((((((((((((((((((((List.Perm.refl _).cons a7)).cons a5)).cons a3)).cons a2)).cons a0)).cons a4)).trans (List.perm_middle (a := a4) (l₁ := [a0, a2, a3]) (l₂ := a5 :: a7 :: Z)).symm).cons a1)).trans (List.perm_middle (a := a1) (l₁ := [a0]) (l₂ := a2 :: a3 :: a4 :: a5 :: a7 :: Z)).symm).cons a6)).trans (List.perm_middle (a := a6) (l₁ := [a0, a1, a2, a3, a4, a5]) (l₂ := a7 :: Z)).symm).cons a8)).trans (List.perm_middle (a := a8) (l₁ := [a0, a1, a2, a3, a4, a5, a6, a7]) (l₂ := Z)).symm
theorem pmB0 {α : Type} {a0 a1 a2 a3 a4 a5 a6 a7 a8 : α} {Z : List α} : (a4 :: a2 :: a5 :: a6 :: a3 :: a7 :: a1 :: a8 :: a0 :: Z).Perm (a0 :: a1 :: a2 :: a3 :: a4 :: a5 :: a6 :: a7 :: a8 :: Z) :=
 ((((((((((((((((((((((((((List.Perm.refl _).cons a0)).cons a8)).trans (List.perm_middle (a := a8) (l₁ := [a0]) (l₂ := Z)).symm).cons a1)).trans (List.perm_middle (a := a1) (l₁ := [a0]) (l₂ := a8 :: Z)).symm).cons a7)).trans (List.perm_middle (a := a7) (l₁ := [a0, a1]) (l₂ := a8 :: Z)).symm).cons a3)).trans (List.perm_middle (a := a3) (l₁ := [a0, a1]) (l₂ := a7 :: a8 :: Z)).symm).cons a6)).trans (List.perm_middle (a := a6) (l₁ := [a0, a1, a3]) (l₂ := a7 :: a8 :: Z)).symm).cons a5)).trans (List.perm_middle (a := a5) (l₁ := [a0, a1, a3]) (l₂ := a6 :: a7 :: a8 :: Z)).symm).cons a2)).trans (List.perm_middle (a := a2) (l₁ := [a0, a1]) (l₂ := a3 :: a5 :: a6 :: a7 :: a8 :: Z)).symm).cons a4)).trans (List.perm_middle (a := a4) (l₁ := [a0, a1, a2, a3]) (l₂ := a5 :: a6 :: a7 :: a8 :: Z)).symm
set_option maxHeartbeats 16000000 in
theorem do32R1_ (s g c : Nat) (ps : PS) (x : Fr) (a : FA) (i : Ins) (hx : FrOk x) (hk : i.kind = 26) (ha : 0 ≤ i.a ∧ i.a < (x.nr : Int)) (hr : ∀ r ∈ readsF i, 0 ≤ r ∧ r < (x.nr : Int)) (hg : i.args.length ≤ 1048576) :
    ACalls Try.prog 32 [.v (.pointer (some ⟨s, 0, none⟩)), .ep (.slice (some ⟨g, 0, none⟩) 1 c) (([] : List T)).length, .agg (insCells i)] (([Ent.box s 80 (psC ps (.v (.slice (some ⟨g, 0, none⟩) 1 c))), Ent.row (some ⟨g, 0, none⟩) 1 c 87 7 (([] : List T) ++ frC x a)] ++ frR x a) ++ ([] : St)) (fun t S => t = bv (okS x.set (readsF i)) ∧ ([Ent.box s 80 (psC (if okS x.set (readsF i) = true then backP ps (rA x i.a) else ps) (.v (.slice (some ⟨g, 0, none⟩) 1 c))), Ent.row (some ⟨g, 0, none⟩) 1 c 87 7 (([] : List T) ++ frC x a)] ++ frR x a).Sublist S) := by
 refine ACalls.intro Try.func32 rfl Try.ntmps32 nB rfl fun X w0 => ?_
 refine rs ?_
 refine AWL.boxOp rfl rfl (B rfl) rfl (E rfl rfl) rfl (fun b4 => ?_)
 refine AWL.boxOp rfl rfl (B rfl) rfl (E rfl rfl) rfl (fun b5 => ?_)
 refine ya ?_
 refine rs ?_
 refine AWL.allocOp rfl rfl (B rfl) rfl zc_4 (fun b7 => ?_)
 refine AWL.storeBox (i := 8) rfl rfl rfl ag_4 rfl (E rfl rfl) (E rfl rfl) rfl rfl nB (nl ?_)
 refine rs (Y1 (Yv.loadBoxA rfl ag_58 (i := 7) rfl eV rfl rfl) ?_)
 refine Y1 (Yv.makeFunc rfl evs0 rfl (evsC eV (evsC eV evs0)) rfl) ?_
 refine AWL.perm (S' := [Ent.box b7 4 [bv (true)], Ent.box b4 83 [.ep (.slice (some ⟨g, 0, none⟩) 1 c) (([] : List T)).length], Ent.row (some ⟨g, 0, none⟩) 1 c 87 7 (([] : List T) ++ frC x a), Ent.row a.t x.nr x.nr 4 1 (x.set.map bv)] ++ ([Ent.box s 80 (psC ps (.v (.slice (some ⟨g, 0, none⟩) 1 c))), Ent.row a.r x.nr x.nr 39 1 (x.r.map zw), Ent.row a.s x.ns x.ns 39 1 (x.slot.map zw), Ent.row a.h x.ns x.ns 4 1 (x.there.map bv), Ent.box b5 58 (insCells i)] ++ ([] : St))) pmA0 ?_
 refine C1 rfl ce_49 (E rfl rfl) (evsC (E rfl rfl) (evsC (E rfl rfl) evs0)) (S1 := [Ent.box b7 4 [bv (true)], Ent.box b4 83 [.ep (.slice (some ⟨g, 0, none⟩) 1 c) (([] : List T)).length], Ent.row (some ⟨g, 0, none⟩) 1 c 87 7 (([] : List T) ++ frC x a), Ent.row a.t x.nr x.nr 4 1 (x.set.map bv)]) (S2 := _) rfl (reads49 b7 b4 g 1 c ([] : List T) x a true i hx.t hg hr) ?_
 rintro t14 S14 ⟨rfl, rfl⟩
 refine AWL.perm (S' := ([Ent.box s 80 (psC ps (.v (.slice (some ⟨g, 0, none⟩) 1 c))), Ent.row (some ⟨g, 0, none⟩) 1 c 87 7 (([] : List T) ++ frC x a)] ++ frR x a) ++ ([Ent.box b4 83 [.ep (.slice (some ⟨g, 0, none⟩) 1 c) (([] : List T)).length], Ent.box b5 58 (insCells i), Ent.box b7 4 [bv (okS x.set (readsF i))]] ++ ([] : St))) pmB0 (nl ?_)
 refine AW.seq ?_
 refine rs (yl ag_4 8 ?_)
 refine Y1 (Yv.not rfl eV) (nl ?_)
 refine AW.cond rfl (fun h0t => ?_) (fun h0f => ?_)
 ·refine ra ?_
  refine AW.ret (retI (.tmp rfl .nil) ?_)
  rw [show okS x.set (readsF i) = false by simpa using h0t]
  exact ⟨rfl, List.sublist_append_left _ _⟩
 have hok : okS x.set (readsF i) = true := by simpa using h0f
 refine AW.skip ?_
 refine rs (Y1 (Yv.assign rfl eV) ?_)
 refine ya ?_
 refine AW.seq ?_
 refine rs (yf fo_58_0 ?_)
 refine yl ag_3 7 (nl ?_)
 refine AW.block ?_
 refine rs (Y1 (Yv.eql rfl eV eV) ?_)
 refine ya ?_
 refine AW.cond rfl (fun h1t => ?_) (fun h1f => ?_)
 ·try replace h1t := odt h1t
  exfalso; omega
 try replace h1f := odf h1f
 refine rs (Y1 (Yv.eql rfl eV eV) ?_)
 refine ya ?_
 refine AW.cond rfl (fun h2t => ?_) (fun h2f => ?_)
 ·try replace h2t := odt h2t
  exfalso; omega
 try replace h2f := odf h2f
 refine AW.seq ?_
 refine rs (Y1 (Yv.eql rfl eV eV) ?_)
 refine ya ?_
 refine AW.cond rfl (fun h3t => ?_) (fun h3f => ?_)
 ·try replace h3t := odt h3t
  exfalso; omega
 try replace h3f := odf h3f
 refine rs (Y1 (Yv.eql rfl eV eV) ?_)
 refine ya ?_
 refine AW.cond rfl (fun h4t => ?_) (fun h4f => ?_)
 ·try replace h4t := odt h4t
  exfalso; omega
 try replace h4f := odf h4f
 refine rs (Y1 (Yv.eql rfl eV eV) ?_)
 refine ya ?_
 refine AW.cond rfl (fun h5t => ?_) (fun h5f => ?_)
 ·try replace h5t := odt h5t
  exfalso; omega
 try replace h5f := odf h5f
 refine rs (Y1 (Yv.eql rfl eV eV) ?_)
 refine ya ?_
 refine AW.cond rfl (fun h6t => ?_) (fun h6f => ?_)
 ·try replace h6t := odt h6t
  exfalso; omega
 try replace h6f := odf h6f
 refine AW.region ?_
 refine Y1 (Yv.eql rfl eV eV) ?_
 refine ya ?_
 refine AW.cond rfl (fun h7t => ?_) (fun h7f => ?_)
 ·try replace h7t := odt h7t
  refine rs (ym ?_)
  refine yl ag_83 6 ?_
  refine Y1 (Yv.loadBoxA rfl ag_58 (i := 7) rfl eV rfl rfl) ?_
  refine C1 rfl ce_52 (E rfl rfl) (evsC (E rfl rfl) (evsC (E rfl rfl) (evsC (E rfl rfl) evs0))) (S1 := ([Ent.box s 80 (psC ps (.v (.slice (some ⟨g, 0, none⟩) 1 c))), Ent.row (some ⟨g, 0, none⟩) 1 c 87 7 (([] : List T) ++ frC x a)] ++ frR x a)) (S2 := _) rfl (jumpsRetOne s g c ps x a i hx hk ha) ?_
  rintro t97 S97 ⟨rfl, rfl⟩
  refine ya ?_
  refine AW.ret (retI (.tmp rfl .nil) ?_)
  rw [hok]
  exact ⟨rfl, List.sublist_append_left _ _⟩
 try replace h7f := odf h7f
 exfalso; omega

theorem do32R1 (s g c : Nat) (ps : PS) (x : Fr) (a : FA) (i : Ins) (hx : FrOk x) (hk : i.kind = 26) (ha : 0 ≤ i.a ∧ i.a < (x.nr : Int)) (hr : ∀ r ∈ readsF i, 0 ≤ r ∧ r < (x.nr : Int)) (hg : i.args.length ≤ 1048576) : ACalls Try.prog 32 [.v (.pointer (some ⟨s, 0, none⟩)), .ep (.slice (some ⟨g, 0, none⟩) 1 c) 0, .agg (insCells i)] ([Ent.box s 80 (psC ps (.v (.slice (some ⟨g, 0, none⟩) 1 c))), Ent.row (some ⟨g, 0, none⟩) 1 c 87 7 (([] : List T) ++ frC x a)] ++ frR x a) (fun t S => t = bv (okS x.set (readsF i)) ∧ S = ([Ent.box s 80 (psC (if okS x.set (readsF i) = true then backP ps (rA x i.a) else ps) (.v (.slice (some ⟨g, 0, none⟩) 1 c))), Ent.row (some ⟨g, 0, none⟩) 1 c 87 7 (([] : List T) ++ frC x a)] ++ frR x a)) :=
 (do32R1_ s g c ps x a i hx hk ha hr hg).less fun t S' ⟨h1, h2⟩ => ⟨_, h2, h1, rfl⟩
end Go.Proofs.Ytlfklgganokgdaa

namespace Go.Proofs.Ytlfklgganokgdaa
open Go Go.RowKit
structure InA (nr ns n j : Nat) (i : Ins) : Prop where
 kind : (i.kind = 19 ∨ valK i.kind ∨ i.kind = 32) ∧ j + 1 < n ∨ i.kind = 26
 real : i.kind ≠ 16
 args : i.args.length ≤ 1048576
 a : (hasF i.kind).a = true → 0 ≤ i.a ∧ i.a < (nr : Int)
 b : (hasF i.kind).b = true → 0 ≤ i.b ∧ i.b < (nr : Int)
 d : (hasF i.kind).d = true → 0 ≤ i.d ∧ i.d < (nr : Int)
 slot : i.kind = 31 ∨ i.kind = 32 → 0 ≤ i.imm ∧ i.imm < (ns : Int)
 rd : ∀ r ∈ readsF i, 0 ≤ r ∧ r < (nr : Int)
def R0 : Int → Wd64 → Wd64 → Wd64 := fun _ _ _ => 0#64
def stepR (ps : PS) (x : Fr) (i : Ins) : Option (PS × Fr) :=
 if i.kind = 26 then (if okS x.set (readsF i) = true then some (backP ps (rA x i.a), x) else none)
 else (stepA R0 ps.heap x i).map fun y => (ps, y)
def runF (L : List Ins) : Nat → Int → PS → Fr → PS × Fr
 | 0, _, ps, x => (ps, x)
 | n + 1, f, ps, x =>
  if 0 < f ∧ ps.st = 0 then
   (if (L.getD x.at_.toNat default).kind = 19 then runF L n f ps (goF x)
   else match stepR ps x (L.getD x.at_.toNat default) with
    | none => ({ ps with st := 2 }, x)
    | some q => runF L n (f - 1) { q.1 with steps := q.1.steps + 1 } q.2)
  else (ps, x)
section
variable {L : List Ins} {n : Nat} {f : Int} {ps : PS} {x : Fr}
theorem run_end (h : ¬ (0 < f ∧ ps.st = 0)) : runF L n f ps x = (ps, x) := by
 cases n with
 | zero => rfl
 | succ n => rw [runF, if_neg h]
theorem run_label (h : 0 < f ∧ ps.st = 0) (hk : (L.getD x.at_.toNat default).kind = 19) : runF L (n + 1) f ps x = runF L n f ps (goF x) := by rw [runF, if_pos h, if_pos hk]
theorem run_stuck (h : 0 < f ∧ ps.st = 0) (hk : ¬ (L.getD x.at_.toNat default).kind = 19) (hs : stepR ps x (L.getD x.at_.toNat default) = none) : runF L (n + 1) f ps x = ({ ps with st := 2 }, x) := by rw [runF, if_pos h, if_neg hk, hs]
theorem run_step (h : 0 < f ∧ ps.st = 0) (hk : ¬ (L.getD x.at_.toNat default).kind = 19) {q : PS × Fr} (hs : stepR ps x (L.getD x.at_.toNat default) = some q) : runF L (n + 1) f ps x = runF L n (f - 1) { q.1 with steps := q.1.steps + 1 } q.2 := by rw [runF, if_pos h, if_neg hk, hs]
end
structure RA (p : Prog) (fi nr ns n : Nat) (ps : PS) (x : Fr) : Prop where
 prog : ps.prog = p
 f : x.f = (fi : Int)
 nr : x.nr = nr
 ns : x.ns = ns
 ok : FrOk x
 at0 : 0 ≤ x.at_
 at1 : x.at_.toNat < n
theorem stepA_keeps {R : Int → Wd64 → Wd64 → Wd64} {heap : Wd64} {x x' : Fr} {i : Ins} (h : stepA R heap x i = some x') (hx : FrOk x) : FrOk x' ∧ x'.nr = x.nr ∧ x'.ns = x.ns ∧ x'.f = x.f ∧ x'.at_ = x.at_ + 1 := by
 unfold stepA at h
 split at h
 ·cases h
 split at h
 ·cases h; exact ⟨goF_ok (putF_ok hx i), rfl, rfl, rfl, rfl⟩
 split at h
 ·cases h; exact ⟨goF_ok (setD_ok hx _ _), rfl, rfl, rfl, rfl⟩
 cases h
theorem back_prog (ps : PS) (v : Wd64) : (backP ps v).prog = ps.prog ∧ (backP ps v).steps = ps.steps ∧ (backP ps v).st ≠ 0 := by
 unfold backP; split <;> exact ⟨rfl, rfl, by simp⟩
/-! ### a new process -/
def mapT (b : Nat) : T := .v (.map (some b))
def mapsE (bs : List Nat) (fs : List Fn) : St := (bs.zip fs).map fun q => .map q.1 (lmT (whL q.2.code))
theorem mapsE_succ {bs : List Nat} {fs : List Fn} {j b : Nat} (h : j < fs.length) (hb : bs.length = j) : mapsE (bs ++ [b]) (fs.take (j + 1)) = mapsE bs (fs.take j) ++ [.map b (lmT (whL (fs.getD j default).code))] := by
 unfold mapsE
 rw [take_gd h, List.zip_append (by rw [hb, List.length_take]; omega), List.map_append]
 rfl
def psN (p : Prog) (lab : T) (heap : Wd64) (strict : Bool) (w pg : T) : PS := ⟨p, lab, heap, strict, w, pg, false, 0, 0#64, 0, 0⟩
/-! ### the program that the law knows -/
def psL (wv pg lab : T) : PS := ⟨little, lab, 65536#64, true, wv, pg, false, 0, 0#64, 0, 0⟩
def frL : Fr := openFr (little.funs.getD 0 default) 0 [] 0
def codeL : List Ins := (little.funs.getD 0 default).code
theorem littleA : ∀ j, j < codeL.length → InA 3 0 codeL.length j (codeL.getD j default) := by
 intro j hj
 have : j = 0 ∨ j = 1 ∨ j = 2 ∨ j = 3 := by
  have : codeL.length = 4 := rfl
  omega
 rcases this with rfl | rfl | rfl | rfl
 ·exact ⟨.inl ⟨.inr (.inl (.inl ⟨by decide, by decide⟩)), by decide⟩, by decide, by decide, by decide, by decide, by decide, by decide, by decide⟩
 ·exact ⟨.inl ⟨.inr (.inl (.inl ⟨by decide, by decide⟩)), by decide⟩, by decide, by decide, by decide, by decide, by decide, by decide, by decide⟩
 ·exact ⟨.inl ⟨.inr (.inl (.inl ⟨by decide, by decide⟩)), by decide⟩, by decide, by decide, by decide, by decide, by decide, by decide, by decide⟩
 exact ⟨.inr rfl, by decide, by decide, by decide, by decide, by decide, by decide, by decide⟩
def famL : Fam := [some [false, false, false], some [true, false, false], some [true, true, false], some [true, true, true]]
theorem little_strict : checkR little = 0 ∧ ∀ f ∈ little.funs, StrictF f := by
 refine ⟨by kernel_rfl, fun g hg => ?_⟩
 cases List.mem_singleton.1 hg
 refine ⟨famL, ⟨rfl, fun k a h => ?_, ⟨_, rfl, leB.refl _⟩, fun k a hk h l hl => ?_⟩, fun k a hk h => ?_⟩
 ·have : k = 0 ∨ k = 1 ∨ k = 2 ∨ k = 3 ∨ 4 ≤ k := by omega
  rcases this with rfl | rfl | rfl | rfl | h4
  ·cases h; rfl
  ·cases h; rfl
  ·cases h; rfl
  ·cases h; rfl
  exfalso
  unfold famAt famL at h
  simp only [List.getD_eq_getElem?_getD] at h
  rw [List.getElem?_eq_none (by simpa using h4)] at h
  cases h
 ·have hk' : k < 4 := hk
  have : k = 0 ∨ k = 1 ∨ k = 2 ∨ k = 3 := by omega
  rcases this with rfl | rfl | rfl | rfl
  ·cases h
   have hl' : l ∈ [(1 : Int)] := hl
   rw [List.mem_singleton] at hl'
   subst hl'; exact leB.refl _
  ·cases h
   have hl' : l ∈ [(2 : Int)] := hl
   rw [List.mem_singleton] at hl'
   subst hl'; exact leB.refl _
  ·cases h
   have hl' : l ∈ [(3 : Int)] := hl
   rw [List.mem_singleton] at hl'
   subst hl'; exact leB.refl _
  cases h
  have hl' : l ∈ ([] : List Int) := hl
  cases hl'
 have hk' : k < 4 := hk
 have : k = 0 ∨ k = 1 ∨ k = 2 ∨ k = 3 := by omega
 rcases this with rfl | rfl | rfl | rfl <;> (cases h; rfl)
def ps1 (wv pg lab : T) : PS := (runF codeL 100 3 (psL wv pg lab) frL).1
def fr1L (wv pg lab : T) : Fr := (runF codeL 100 3 (psL wv pg lab) frL).2
def ps2 (wv pg lab : T) : PS := (runF codeL 100 9 (ps1 wv pg lab) (fr1L wv pg lab)).1
def fr2L (wv pg lab : T) : Fr := (runF codeL 100 9 (ps1 wv pg lab) (fr1L wv pg lab)).2
theorem ps1_eq (wv pg lab : T) : (runF codeL 100 3 (psL wv pg lab) frL).1 = ps1 wv pg lab := by unfold ps1; rfl
theorem fr1_eq (wv pg lab : T) : (runF codeL 100 3 (psL wv pg lab) frL).2 = fr1L wv pg lab := by unfold fr1L; rfl
theorem ps2_eq (wv pg lab : T) : (runF codeL 100 9 (ps1 wv pg lab) (fr1L wv pg lab)).1 = ps2 wv pg lab := by unfold ps2; rfl
theorem fr2_eq (wv pg lab : T) : (runF codeL 100 9 (ps1 wv pg lab) (fr1L wv pg lab)).2 = fr2L wv pg lab := by unfold fr2L; rfl
theorem ra0 (wv pg lab : T) : RA little 0 3 0 codeL.length (psL wv pg lab) frL := ⟨rfl, rfl, rfl, rfl, ⟨rfl, rfl, rfl, rfl⟩, by decide, by decide⟩
theorem ra1_at (wv pg lab : T) : (fr1L wv pg lab).at_ = 3 := by kernel_rfl
theorem ra1 (wv pg lab : T) : RA little 0 3 0 codeL.length (ps1 wv pg lab) (fr1L wv pg lab) :=
 ⟨by kernel_rfl, by kernel_rfl, by kernel_rfl, by kernel_rfl, ⟨by kernel_rfl, by kernel_rfl, by kernel_rfl, by kernel_rfl⟩, by rw [ra1_at]; decide, by rw [ra1_at]; decide⟩
theorem ps1_st (wv pg lab : T) : (ps1 wv pg lab).st = 0 := by kernel_rfl
theorem ps1_steps (wv pg lab : T) : (ps1 wv pg lab).steps = 3 := by kernel_rfl
theorem ps2_st (wv pg lab : T) : (ps2 wv pg lab).st = 1 := by kernel_rfl
theorem ps2_steps (wv pg lab : T) : (ps2 wv pg lab).steps = 4 := by kernel_rfl
theorem ps2_code (wv pg lab : T) : (ps2 wv pg lab).code = 254 := by kernel_rfl
def emptyP : Prog := ⟨[], [], 0⟩
theorem empty_in : ProgIn emptyP := ⟨by decide, by decide, fun f hf => (by cases hf), by decide, by decide, by decide⟩
theorem empty_check : checkW emptyP = 130 := by kernel_rfl
theorem little_check : checkW little = 0 := by kernel_rfl
end Go.Proofs.Ytlfklgganokgdaa

namespace Go.Proofs.Ytlfklgganokgdaa
open Go Go.RowKit

theorem do32N (s g c : Nat) (ps : PS) (x : Fr) (a : FA) (i : Ins) (len j : Nat) (hi : InA x.nr x.ns len j i) (h19 : i.kind ≠ 19) (hx : FrOk x) (hat : 0 ≤ x.at_ ∧ x.at_ ≤ 4611686018427387904) : ACalls Try.prog 32 [.v (.pointer (some ⟨s, 0, none⟩)), .ep (.slice (some ⟨g, 0, none⟩) 1 c) 0, .agg (insCells i)] ([Ent.box s 80 (psC ps (.v (.slice (some ⟨g, 0, none⟩) 1 c))), Ent.row (some ⟨g, 0, none⟩) 1 c 87 7 (([] : List T) ++ frC x a)] ++ frR x a) (fun t S => ∃ q : PS × Fr, t = bv (stepR ps x i).isSome ∧ q = (stepR ps x i).getD (ps, x) ∧ S = ([Ent.box s 80 (psC q.1 (.v (.slice (some ⟨g, 0, none⟩) 1 c))), Ent.row (some ⟨g, 0, none⟩) 1 c 87 7 (([] : List T) ++ frC q.2 a)] ++ frR q.2 a)) := by
 by_cases hk : i.kind = 26
 ·refine (do32R1 s g c ps x a i hx hk (hi.a (by rw [hk]; rfl)) hi.rd hi.args).mono fun t S h => ?_
  obtain ⟨h1, h2⟩ := h
  refine ⟨_, ?_, rfl, ?_⟩
  ·rw [h1, stepR, if_pos hk]
   cases okS x.set (readsF i) <;> rfl
  rw [h2, stepR, if_pos hk]
  cases okS x.set (readsF i) <;> rfl
 have hv : valK i.kind ∨ i.kind = 32 := by
  rcases hi.kind with ⟨h | h | h, _⟩ | h
  ·exact absurd h h19
  ·exact .inl h
  ·exact .inr h
  ·exact absurd h hk
 refine (do32A R0 s g 1 c ps [] x a i hx hv hi.a hi.b hi.slot (fun h => absurd h hi.real) hi.d hi.rd hi.args hat).mono fun t S h => ?_
 obtain ⟨h1, h2⟩ := h
 refine ⟨_, ?_, rfl, ?_⟩
 ·rw [h1, stepR, if_neg hk]
  cases stepA R0 ps.heap x i <;> rfl
 rw [h2, stepR, if_neg hk]
 cases stepA R0 ps.heap x i <;> rfl
theorem stepR_keeps {ps : PS} {x : Fr} {i : Ins} {len j : Nat} {q : PS × Fr} (hi : InA x.nr x.ns len j i) (h19 : i.kind ≠ 19) (hx : FrOk x) (h : stepR ps x i = some q) : q.1.prog = ps.prog ∧ q.1.steps = ps.steps ∧ FrOk q.2 ∧ q.2.nr = x.nr ∧ q.2.ns = x.ns ∧ q.2.f = x.f ∧ (q.2.at_ = x.at_ ∨ q.2.at_ = x.at_ + 1 ∧ j + 1 < len) := by
 unfold stepR at h
 split at h
 ·split at h
  ·cases h
   obtain ⟨h1, h2, _⟩ := back_prog ps (rA x i.a)
   exact ⟨h1, h2, hx, rfl, rfl, rfl, .inl rfl⟩
  cases h
 rename_i hk
 cases hs : stepA R0 ps.heap x i with
 | none => rw [hs] at h; cases h
 | some y =>
  rw [hs] at h; cases h
  obtain ⟨h1, h2, h3, h4, h5⟩ := stepA_keeps hs hx
  refine ⟨rfl, rfl, h1, h2, h3, h4, .inr ⟨h5, ?_⟩⟩
  rcases hi.kind with ⟨_, h⟩ | h
  ·exact h
  ·exact absurd h hk
set_option maxHeartbeats 16000000 in
theorem Run15A (s g c : Nat) (ps0 : PS) (x0 : Fr) (a : FA) (f0 : Int) (p : Prog) (fi nr ns : Nat) (L : List Ins) (G : Nat) (hfi : fi < p.funs.length) (hL : (p.funs.getD fi default).code = L) (hLb : L.length ≤ 1048576) (hin : ∀ j, j < L.length → InA nr ns L.length j (L.getD j default)) (hra : RA p fi nr ns L.length ps0 x0) (hb : f0 ≤ 4611686018427387904 ∧ 0 ≤ ps0.steps ∧ ps0.steps + f0 ≤ 4611686018427387904) (hG : f0.toNat * (L.length + 1) + (L.length - x0.at_.toNat) < G) :
    ACalls Try.prog 15 [.v (.pointer (some ⟨s, 0, none⟩)), zi f0] ([Ent.box s 80 (psC ps0 (.v (.slice (some ⟨g, 0, none⟩) 1 c))), Ent.row (some ⟨g, 0, none⟩) 1 c 87 7 (([] : List T) ++ frC x0 a)] ++ frR x0 a) (fun t S => t = zi (runF L G f0 ps0 x0).1.st ∧ S = ([Ent.box s 80 (psC (runF L G f0 ps0 x0).1 (.v (.slice (some ⟨g, 0, none⟩) 1 c))), Ent.row (some ⟨g, 0, none⟩) 1 c 87 7 (([] : List T) ++ frC (runF L G f0 ps0 x0).2 a)] ++ frR (runF L G f0 ps0 x0).2 a)) := by
 refine ACalls.intro Try.func15 rfl Try.ntmps15 nB rfl fun X w0 => ?_
 refine ra ?_
 refine AW.seq ?_
 refine rs (ym ?_)
 refine Y1 (Yv.eqlNilP rfl pn_36 eV) (nl ?_)
 refine AW.cond rfl (fun h0t => ?_) (fun h0f => ?_)
 ·cases h0t
 refine AW.skip ?_
 refine AW.seq ?_
 refine AW.block ?_
 refine AW.loop4 (fun (m : Nat) (f : Int) (ps : PS) (x : Fr) => [(0, true, pv s), (1, true, zi f)]) (fun (m : Nat) (f : Int) (ps : PS) (x : Fr) => ([Ent.box s 80 (psC ps (.v (.slice (some ⟨g, 0, none⟩) 1 c))), Ent.row (some ⟨g, 0, none⟩) 1 c 87 7 (([] : List T) ++ frC x a)] ++ frR x a)) (fun (m : Nat) (f : Int) (ps : PS) (x : Fr) => RA p fi nr ns L.length ps x ∧ (f ≤ 4611686018427387904 ∧ 0 ≤ ps.steps ∧ ps.steps + f ≤ 4611686018427387904) ∧ f.toNat * (L.length + 1) + (L.length - x.at_.toNat) < m ∧ runF L m f ps x = runF L G f0 ps0 x0) (fun (m : Nat) (f : Int) (ps : PS) (x : Fr) => m) G f0 ps0 x0 ?_ ?_ ?_ ?_
 ·exact ⟨hra, hb, hG, rfl⟩
 ·exact (su (su sn))
 ·rfl
 intro m f ps x hinv
 obtain ⟨⟨hpr, hxf, hnr, hns, hok, hat0, hat1⟩, ⟨hb1, hb2, hb3⟩, hms, hrun⟩ := hinv
 have hfl : fi < ps.prog.funs.length := by rw [hpr]; exact hfi
 have hcl : (ps.prog.funs.getD fi default).code = L := by rw [hpr]; exact hL
 have hcn : (ps.prog.funs.getD fi default).code.length = L.length := by rw [hcl]
 have hI : ((ps.prog.funs.getD fi default).code.getD x.at_.toNat default) = L.getD x.at_.toNat default := by rw [hcl]
 refine AW.seq ?_
 refine rs (ym ?_)
 refine Y1 (Yv.gtr rfl eV eV) ?_
 refine ym ?_
 refine gT (Yv.move rfl eV) ?_
 refine gT (Yv.nilChk rfl (Eg rfl rfl id)) ?_
 refine gT (Yv.fieldBox rfl fo_80_8 (Eg rfl rfl id)) ?_
 refine gT (Yv.loadBox rfl ag_3 (i := 0) rfl (Eg rfl rfl id) rfl) ?_
 refine gT (Yv.eql rfl (Eg rfl rfl id) eV) ?_
 refine Y1 (Yv.pickAnd rfl eV (Eg rfl rfl id)) (nl ?_)
 refine AW.cond rfl (fun h1t => ?_) (fun h1f => ?_)
 ·have hgo : 0 < f ∧ ps.st = 0 := by simpa using h1t
  refine AW.skip ?_
  refine AW.block ?_
  refine AW.rseqQ rfl (by kernel_rfl) ?_
  refine qm ?_
  refine Q1 (Yv.nilChk rfl eV) ?_
  refine qf fo_80_6 ?_
  refine ql ag_78 0 ?_
  refine qm ?_
  refine Q1 (Yv.nilChk rfl eV) ?_
  refine qf fo_80_6 ?_
  refine ql ag_78 0 ?_
  refine Q1 (Yv.lenV rfl so_78 eV) ?_
  refine Q1 (Yv.subN_i64 rfl eV eV (fun hg => by omega)) ?_
  refine Q1 (Yv.indexRow (j := 0) rfl ss_78 (i := 1) rfl eV eV (fun hg => ⟨by omega, by omega⟩)) ?_
  refine Q1 (Yv.assign rfl eV) ?_
  refine AWQ.nil ?_
  refine AW.mid (α := Nat) (fun b6 => [(0, true, pv s), (1, true, zi f), (5, true, .ep (.slice (some ⟨g, 0, none⟩) 1 c) 0), (6, true, pv b6)]) (fun b6 => ([Ent.box s 80 (psC ps (.v (.slice (some ⟨g, 0, none⟩) 1 c))), Ent.row (some ⟨g, 0, none⟩) 1 c 87 7 (([] : List T) ++ frC x a)] ++ frR x a) ++ [.box b6 58 (insCells ((ps.prog.funs.getD fi default).code.getD x.at_.toNat default))]) (fun _ => True) ?_ ?_
  ·refine AW.regionH (HeldCs [(g, 0, Value.int .i64 x.f), (g, 1, Value.int .i64 x.at_)]) rfl (tells_cs (tcR 1 rfl rfl pinV (tcR 1 rfl rfl pinV tc0))) ?_
   refine T2 (i := 0) rfl (heldAll (freeMove rfl (E rfl rfl))) ?_
   refine T2 (i := 1) rfl (heldAll (freeNil rfl (E rfl rfl))) ?_
   refine T2 (i := 2) rfl (heldAll (freeField rfl fo_80_0 (E rfl rfl))) ?_
   refine T2 (i := 3) rfl (heldAll (freeField rfl fo_25_0 (E rfl rfl))) ?_
   refine T2 (i := 5) rfl (heldAll (freeMove rfl (E rfl rfl))) ?_
   refine T2 (i := 6) rfl (heldAll (freeNilEp rfl (E rfl rfl))) ?_
   refine T2 (i := 7) rfl (heldAll (freeFieldEp rfl fo_87_0 (E rfl rfl))) ?_
   refine T2 (i := 8) rfl (heldE 0 rfl ag_3 (E rfl rfl) rfl (fun _ _ => .v _)) ?_
   refine T2 (i := 12) rfl (heldAll (freeMove rfl (E rfl rfl))) ?_
   refine T2 (i := 13) rfl (heldAll (freeNilEp rfl (E rfl rfl))) ?_
   refine T2 (i := 14) rfl (heldAll (freeFieldEp rfl fo_87_1 (E rfl rfl))) ?_
   refine T2 (i := 15) rfl (heldE 1 rfl ag_3 (E rfl rfl) rfl (fun _ _ => .v _)) ?_
   refine AWH.two (i := 4) (j := 18) (by kernel_rfl) rfl rfl ?_ ?_
   ·refine yl ag_22 0 ?_
    refine AWL.nil (kpH (tcR 1 rfl rfl pinV (tcR 1 rfl rfl pinV tc0)) ?_)
    refine T2 (i := 9) rfl (heldAll (freeIdxSl (j := fi) rfl ss_22 (B rfl) (E rfl rfl) (E rfl rfl) ⟨hxf, by rw [len_funs]; omega⟩)) ?_
    refine T2 (i := 10) rfl (heldAll (freeFieldRp rfl fo_51_4 (E rfl rfl))) ?_
    refine AWH.two (i := 11) (j := 18) (by kernel_rfl) rfl rfl ?_ ?_
    ·refine Y1 (Yv.loadRp rfl ag_49 eV (fun hg => fcode_at (by omega))) ?_
     refine AWL.nil (kpH (tcR 1 rfl rfl pinV (tcR 1 rfl rfl pinV tc0)) ?_)
     refine T2 (i := 16) rfl (heldAll (freeIdxSl (j := x.at_.toNat) rfl ss_49 (B rfl) (E rfl rfl) (E rfl rfl) ⟨(Int.toNat_of_nonneg hat0).symm, by rw [len_code]; omega⟩)) ?_
     refine AWH.two (i := 17) (j := 18) (by kernel_rfl) rfl rfl ?_ ?_
     ·refine Y1 (Yv.loadRpA rfl ag_58 eV (fun hg => ins_cells (by omega))) ?_
      refine AWL.nil (kpH (tcR 1 rfl rfl pinV (tcR 1 rfl rfl pinV tc0)) ?_)
      refine AWH.one (i := 18) (by kernel_rfl) rfl ?_
      refine AWL.allocOp rfl rfl (B rfl) rfl zc_58 (fun b6 => ?_)
      refine AWL.nil (kpH (tcR 1 rfl rfl pinV (tcR 1 rfl rfl pinV tc0)) ?_)
      refine AWH.one (i := 19) (by kernel_rfl) rfl ?_
      refine AWL.storeBox (i := 6) rfl rfl rfl ag_58 rfl (E rfl rfl) (E rfl rfl) rfl rfl nB ?_
      refine AWL.nil (kpH (tcR 1 rfl rfl pinV (tcR 1 rfl rfl pinV tc0)) ?_)
      refine AWH.done (by kernel_rfl) ?_
      exact ⟨b6, trivial, (su (su (su (su sn)))), rfl⟩
     refine AWL.allocOp rfl rfl (B rfl) rfl zc_58 (fun b6 => ?_)
     refine AWL.nil (kpH (tcR 1 rfl rfl pinV (tcR 1 rfl rfl pinV tc0)) ?_)
     refine AWH.one (i := 17) (by kernel_rfl) rfl ?_
     refine Y1 (Yv.loadRpA rfl ag_58 eV (fun hg => ins_cells (by omega))) ?_
     refine AWL.nil (kpH (tcR 1 rfl rfl pinV (tcR 1 rfl rfl pinV tc0)) ?_)
     refine AWH.one (i := 19) (by kernel_rfl) rfl ?_
     refine AWL.storeBox (i := 6) rfl rfl rfl ag_58 rfl (E rfl rfl) (E rfl rfl) rfl rfl nB ?_
     refine AWL.nil (kpH (tcR 1 rfl rfl pinV (tcR 1 rfl rfl pinV tc0)) ?_)
     refine AWH.done (by kernel_rfl) ?_
     exact ⟨b6, trivial, (su (su (su (su sn)))), rfl⟩
    refine AWL.allocOp rfl rfl (B rfl) rfl zc_58 (fun b6 => ?_)
    refine AWL.nil (kpH (tcR 1 rfl rfl pinV (tcR 1 rfl rfl pinV tc0)) ?_)
    refine AWH.one (i := 11) (by kernel_rfl) rfl ?_
    refine Y1 (Yv.loadRp rfl ag_49 eV (fun hg => fcode_at (by omega))) ?_
    refine AWL.nil (kpH (tcR 1 rfl rfl pinV (tcR 1 rfl rfl pinV tc0)) ?_)
    refine AWH.one (i := 16) (by kernel_rfl) rfl ?_
    refine Y1 (Yv.indexSl (j := x.at_.toNat) rfl ss_49 (B rfl) eV eV (fun hg => ⟨(Int.toNat_of_nonneg hat0).symm, by rw [len_code]; omega⟩)) ?_
    refine AWL.nil (kpH (tcR 1 rfl rfl pinV (tcR 1 rfl rfl pinV tc0)) ?_)
    refine AWH.one (i := 17) (by kernel_rfl) rfl ?_
    refine Y1 (Yv.loadRpA rfl ag_58 eV (fun hg => ins_cells (by omega))) ?_
    refine AWL.nil (kpH (tcR 1 rfl rfl pinV (tcR 1 rfl rfl pinV tc0)) ?_)
    refine AWH.one (i := 19) (by kernel_rfl) rfl ?_
    refine AWL.storeBox (i := 6) rfl rfl rfl ag_58 rfl (E rfl rfl) (E rfl rfl) rfl rfl nB ?_
    refine AWL.nil (kpH (tcR 1 rfl rfl pinV (tcR 1 rfl rfl pinV tc0)) ?_)
    refine AWH.done (by kernel_rfl) ?_
    exact ⟨b6, trivial, (su (su (su (su sn)))), rfl⟩
   refine AWL.allocOp rfl rfl (B rfl) rfl zc_58 (fun b6 => ?_)
   refine AWL.nil (kpH (tcR 1 rfl rfl pinV (tcR 1 rfl rfl pinV tc0)) ?_)
   refine AWH.one (i := 4) (by kernel_rfl) rfl ?_
   refine yl ag_22 0 ?_
   refine AWL.nil (kpH (tcR 1 rfl rfl pinV (tcR 1 rfl rfl pinV tc0)) ?_)
   refine AWH.one (i := 9) (by kernel_rfl) rfl ?_
   refine Y1 (Yv.indexSl (j := fi) rfl ss_22 (B rfl) eV eV (fun hg => ⟨hxf, by rw [len_funs]; omega⟩)) ?_
   refine AWL.nil (kpH (tcR 1 rfl rfl pinV (tcR 1 rfl rfl pinV tc0)) ?_)
   refine AWH.one (i := 10) (by kernel_rfl) rfl ?_
   refine Y1 (Yv.fieldRp rfl fo_51_4 eV) ?_
   refine AWL.nil (kpH (tcR 1 rfl rfl pinV (tcR 1 rfl rfl pinV tc0)) ?_)
   refine AWH.one (i := 11) (by kernel_rfl) rfl ?_
   refine Y1 (Yv.loadRp rfl ag_49 eV (fun hg => fcode_at (by omega))) ?_
   refine AWL.nil (kpH (tcR 1 rfl rfl pinV (tcR 1 rfl rfl pinV tc0)) ?_)
   refine AWH.one (i := 16) (by kernel_rfl) rfl ?_
   refine Y1 (Yv.indexSl (j := x.at_.toNat) rfl ss_49 (B rfl) eV eV (fun hg => ⟨(Int.toNat_of_nonneg hat0).symm, by rw [len_code]; omega⟩)) ?_
   refine AWL.nil (kpH (tcR 1 rfl rfl pinV (tcR 1 rfl rfl pinV tc0)) ?_)
   refine AWH.one (i := 17) (by kernel_rfl) rfl ?_
   refine Y1 (Yv.loadRpA rfl ag_58 eV (fun hg => ins_cells (by omega))) ?_
   refine AWL.nil (kpH (tcR 1 rfl rfl pinV (tcR 1 rfl rfl pinV tc0)) ?_)
   refine AWH.one (i := 19) (by kernel_rfl) rfl ?_
   refine AWL.storeBox (i := 6) rfl rfl rfl ag_58 rfl (E rfl rfl) (E rfl rfl) rfl rfl nB ?_
   refine AWL.nil (kpH (tcR 1 rfl rfl pinV (tcR 1 rfl rfl pinV tc0)) ?_)
   refine AWH.done (by kernel_rfl) ?_
   exact ⟨b6, trivial, (su (su (su (su sn)))), rfl⟩
  rintro b6 hmid
  refine AW.seq ?_
  refine rs (yf fo_58_0 ?_)
  refine yl ag_3 6 ?_
  refine Y1 (Yv.eql rfl eV eV) (nl ?_)
  refine AW.cond rfl (fun h2t => ?_) (fun h2f => ?_)
  ·try replace h2t := odt h2t
   have hk19 : ((ps.prog.funs.getD fi default).code.getD x.at_.toNat default).kind = 19 := h2t
   refine rs (ym ?_)
   refine Y1 (Yv.nilChkEp rfl eV) ?_
   refine Y1 (Yv.fieldEp rfl fo_87_1 eV) ?_
   refine Y1 (Yv.loadEp rfl ag_3 (i := 1) rfl eV (fun _ => rfl)) ?_
   refine Y1 (Yv.addN_i64 rfl eV eV (fun hg => by omega)) ?_
   refine Y1 (Yv.nilChkEp rfl eV) ?_
   refine Y1 (Yv.fieldEp rfl fo_87_1 eV) ?_
   refine AWL.storeEp1 (i := 1) rfl rfl rfl ag_3 rfl (E rfl rfl) (E rfl rfl) rfl rfl (by rw [fr_len]; omega) (nl ?_)
   refine AW.dropAt 6 ?_
   refine AW.exit ?_
   obtain ⟨m, rfl⟩ : ∃ k, m = k + 1 := ⟨m - 1, by omega⟩
   have hin1 := hin _ hat1
   have hnx : x.at_.toNat + 1 < L.length := by
    rw [hI] at hk19
    rcases hin1.kind with ⟨_, h⟩ | h
    ·exact h
    ·omega
   refine ⟨m, f, ps, goF x, ⟨⟨hpr, hxf, hnr, hns, goF_ok hok, by show 0 ≤ x.at_ + 1; omega, by show (x.at_ + 1).toNat < _; omega⟩, ⟨hb1, hb2, hb3⟩, ?_, ?_⟩, by omega, (su (su sn)), ?_⟩
   ·show f.toNat * (L.length + 1) + (L.length - (x.at_ + 1).toNat) < m
    omega
   ·rw [← hrun, run_label hgo (by rw [← hI]; exact hk19)]
   rw [show frR (goF x) a = frR x a from rfl, show goF x = { x with at_ := x.at_ + 1 } from rfl, ← fr_jump]
   rfl
  try replace h2f := odf h2f
  have hk19 : ¬ ((ps.prog.funs.getD fi default).code.getD x.at_.toNat default).kind = 19 := h2f
  refine AW.skip ?_
  refine AW.seq ?_
  refine rs (ym ?_)
  refine ym ?_
  refine Y1 (Yv.loadBoxA rfl ag_58 (i := 6) rfl eV rfl rfl) ?_
  refine C1 rfl ce_32 (E rfl rfl) (evsC (E rfl rfl) (evsC (E rfl rfl) (evsC (E rfl rfl) evs0))) (S1 := ([Ent.box s 80 (psC ps (.v (.slice (some ⟨g, 0, none⟩) 1 c))), Ent.row (some ⟨g, 0, none⟩) 1 c 87 7 (([] : List T) ++ frC x a)] ++ frR x a)) (S2 := _) rfl (do32N s g c ps x a ((ps.prog.funs.getD fi default).code.getD x.at_.toNat default) L.length x.at_.toNat (by rw [hI, hnr, hns]; exact hin _ hat1) (by assumption) hok ⟨hat0, by omega⟩) ?_
  rintro t60 S60 ⟨q, rfl, hq, rfl⟩
  refine Y1 (Yv.not rfl eV) (nl ?_)
  refine AW.cond rfl (fun h3t => ?_) (fun h3f => ?_)
  ·have hnone : stepR ps x ((ps.prog.funs.getD fi default).code.getD x.at_.toNat default) = none := by simpa using h3t
   rw [hnone] at hq
   subst hq
   refine rs (ym ?_)
   refine Y1 (Yv.nilChk rfl eV) ?_
   refine yf fo_80_8 ?_
   refine AWL.storeBox (i := 0) rfl rfl rfl ag_3 rfl (E rfl rfl) (E rfl rfl) rfl rfl nB (nl ?_)
   refine AW.dropAt 6 ?_
   refine AW.exit ?_
   refine rs (ym ?_)
   refine Y1 (Yv.nilChk rfl eV) ?_
   refine yf fo_80_8 ?_
   refine yl ag_3 0 ?_
   refine ya ?_
   refine AW.ret (retI (.tmp rfl .nil) ?_)
   obtain ⟨m, rfl⟩ : ∃ k, m = k + 1 := ⟨m - 1, by omega⟩
   rw [← hrun, run_stuck hgo (by rw [← hI]; exact hk19) (by rw [← hI]; exact hnone)]
   exact ⟨rfl, rfl⟩
  have hsome : stepR ps x ((ps.prog.funs.getD fi default).code.getD x.at_.toNat default) = some q := by
   cases hs : stepR ps x ((ps.prog.funs.getD fi default).code.getD x.at_.toNat default) with
   | none => rw [hs] at h3f; cases h3f
   | some y => rw [hs] at hq; rw [hq]; rfl
  have hkeep := stepR_keeps (len := L.length) (j := x.at_.toNat) (by rw [hI, hnr, hns]; exact hin _ hat1) hk19 hok hsome
  have hks := hkeep.2.1
  refine AW.skip ?_
  refine rs (ym ?_)
  refine Y1 (Yv.nilChk rfl eV) ?_
  refine yf fo_80_11 ?_
  refine yl ag_3 0 ?_
  refine Y1 (Yv.addN_i64 rfl eV eV (fun hg => by omega)) ?_
  refine Y1 (Yv.nilChk rfl eV) ?_
  refine yf fo_80_11 ?_
  refine AWL.storeBox (i := 0) rfl rfl rfl ag_3 rfl (E rfl rfl) (E rfl rfl) rfl rfl nB (nl ?_)
  refine AW.dropAt 6 ?_
  refine AW.region ?_
  refine ym ?_
  refine Y1 (Yv.subN_i64 rfl eV eV (fun hg => by omega)) ?_
  refine ya ?_
  obtain ⟨m, rfl⟩ : ∃ k, m = k + 1 := ⟨m - 1, by omega⟩
  obtain ⟨k1, k2, k3, k4, k5, k6, k7⟩ := hkeep
  refine ⟨m, f - 1, { q.1 with steps := q.1.steps + 1 }, q.2, ⟨⟨k1.trans hpr, k6.trans hxf, k4.trans hnr, k5.trans hns, k3, by omega, by omega⟩, ⟨by omega, by show 0 ≤ q.1.steps + 1; omega, by show q.1.steps + 1 + (f - 1) ≤ _; omega⟩, ?_, ?_⟩, by omega, (su (su sn)), rfl⟩
  ·have e : f.toNat * (L.length + 1) = (f - 1).toNat * (L.length + 1) + (L.length + 1) := by rw [show f.toNat = (f - 1).toNat + 1 by omega, Nat.add_mul, Nat.one_mul]
   omega
  rw [← hrun, run_step hgo (by rw [← hI]; exact hk19) (by rw [← hI]; exact hsome)]
 have hgo : ¬ (0 < f ∧ ps.st = 0) := by simpa using h1f
 refine AW.exit ?_
 refine rs (ym ?_)
 refine Y1 (Yv.nilChk rfl eV) ?_
 refine yf fo_80_8 ?_
 refine yl ag_3 0 ?_
 refine ya ?_
 refine AW.ret (retI (.tmp rfl .nil) ?_)
 rw [← hrun, run_end hgo]
 exact ⟨rfl, rfl⟩

end Go.Proofs.Ytlfklgganokgdaa

namespace Go.Proofs.Ytlfklgganokgdaa
open Go Go.RowKit

theorem pmN {α : Type} {a0 a1 a2 a3 : α} {Z : List α} : (a2 :: a0 :: a1 :: a3 :: Z).Perm (a0 :: a1 :: a2 :: a3 :: Z) :=
 (((((((((List.Perm.refl _).cons a3)).cons a1)).cons a0)).cons a2)).trans (List.perm_middle (a := a2) (l₁ := [a0, a1]) (l₂ := a3 :: Z)).symm
set_option maxHeartbeats 16000000 in
theorem New13N (p : Prog) (heap : Wd64) (strict : Bool) (aw : Addr) (hp : ProgIn p) (hc : checkW p = 0) (hh : ¬ heap < 65536#64) (hh2 : ¬ 1099511627776#64 < heap) (hdat : p.data = []) (hf0 : 0 < p.funs.length) (h0 : 0 ≤ (p.funs.getD 0 default).regs) (h1 : (p.funs.getD 0 default).regs ≤ 65536) (k0 : 0 ≤ (p.funs.getD 0 default).slots) (k1 : (p.funs.getD 0 default).slots ≤ 1048576) :
    ACalls Try.prog 13 [.agg (progCells p), zw heap, bv strict, .v (.pointer (some aw))] [] (fun t S => ∃ b41 b39 A c bs g c2 a, t = .tup [.v (.pointer (some ⟨b41, 0, none⟩)), zi 0] ∧ bs.length = p.funs.length ∧ S = ([Ent.box b41 80 (psC (psN p (.v (.slice A p.funs.length c)) heap strict (.v (.pointer (some aw))) (.v (.map (some b39)))) (.v (.slice (some ⟨g, 0, none⟩) 1 c2))), Ent.row (some ⟨g, 0, none⟩) 1 c2 87 7 (([] : List T) ++ frC (openFr (p.funs.getD 0 default) 0 [] 0) a)] ++ frR (openFr (p.funs.getD 0 default) 0 [] 0) a) ++ ([Ent.map b39 [], Ent.row A p.funs.length c 53 1 (bs.map mapT)] ++ mapsE bs p.funs)) := by
 have hpf := hp.funs
 refine ACalls.intro Try.func13 rfl Try.ntmps13 nB rfl fun X w0 => ?_
 refine rs ?_
 refine AWL.boxOp rfl rfl (B rfl) rfl (E rfl rfl) rfl (fun b4 => ?_)
 refine Y1 (Yv.assign rfl eV) ?_
 refine ya ?_
 refine AW.seq ?_
 refine rs (Y1 (Yv.loadBoxA rfl ag_25 (i := 0) rfl eV rfl rfl) ?_)
 refine AWL.callP rfl rfl (B rfl) rfl ce_6 (E rfl rfl) (evsC (E rfl rfl) evs0) (Check6 p hp) (fun t S h => h) ?_
 refine ya ?_
 refine rs (ym ?_)
 refine Y1 (Yv.neq rfl eV eV) (nl ?_)
 refine AW.cond rfl (fun h0t => ?_) (fun h0f => ?_)
 ·exact absurd hc (by simpa using h0t)
 refine AW.skip ?_
 refine AW.seq ?_
 refine rs (ym ?_)
 refine Y1 (Yv.lssW (b := 65536#64) rfl eV eV) ?_
 refine ym ?_
 refine gF (Yv.move rfl eV) ?_
 refine gF (Yv.gtrW (b := 1099511627776#64) rfl (Eg rfl rfl id) eV) ?_
 refine Y1 (Yv.pickOr (t := .const (.bool true)) rfl eV (Eg rfl rfl id)) ?_
 refine ym ?_
 refine gF (Yv.move rfl eV) ?_
 refine gF (Yv.eqlNilP rfl pn_34 (Eg rfl rfl id)) ?_
 refine Y1 (Yv.pickOr (t := .const (.bool true)) rfl eV (Eg rfl rfl id)) (nl ?_)
 refine AW.cond rfl (fun h1t => ?_) (fun h1f => ?_)
 ·exfalso; simp [hh, hh2] at h1t
 refine AW.skip ?_
 refine rs (Y1 (Yv.loadBoxA rfl ag_25 (i := 0) rfl eV rfl rfl) ?_)
 refine AWL.callT rfl rfl (B rfl) rfl ce_29 (E rfl rfl) (evsC (E rfl rfl) evs0) (kept29 p hp) ?_
 rintro t35 S35 rfl
 refine ym ?_
 refine ym ?_
 refine ym ?_
 refine AWL.makeMapOp rfl rfl (B rfl) rfl (fun b39 => ?_)
 refine Y1 (Yv.buildS rfl sh_80 (evpC eV (evpC eV (evpC eV (evpC eV (evpC eV evp0))))) (fun _ => rfl)) ?_
 refine AWL.boxOp rfl rfl (B rfl) rfl (E rfl rfl) rfl (fun b41 => ?_)
 refine ya ?_
 refine AW.rowNil 53 1 ?_
 refine AW.perm (S' := [Ent.box b41 80 (psC (psN p (.v (.slice none 0 0)) heap strict (.v (.pointer (some aw))) (.v (.map (some b39)))) (.v (.slice none 0 0))), Ent.box b4 25 (progCells p), Ent.map b39 [], Ent.row none 0 0 53 1 (([] : List Nat).map mapT)] ++ mapsE [] (p.funs.take 0)) pmN ?_
 refine AW.seq ?_
 refine rs (yf fo_25_0 ?_)
 refine yl ag_22 1 ?_
 refine Y1 (Yv.lenSl rfl so_22 (B rfl) eV len_funs) ?_
 refine ym (nl ?_)
 refine AW.block ?_
 refine AW.loop4 (fun (j : Nat) (bs : List Nat) (A : Option Addr) (c : Nat) => [(4, true, pv b4), (11, true, pv b41), (43, true, .sl 5 (p.funs.flatMap fnCells)), (44, true, .v (.int .i64 (p.funs.length : Int))), (45, true, .v (.int .i64 (j : Int)))]) (fun (j : Nat) (bs : List Nat) (A : Option Addr) (c : Nat) => ([Ent.box b41 80 (psC (psN p (.v (.slice A j c)) heap strict (.v (.pointer (some aw))) (.v (.map (some b39)))) (.v (.slice none 0 0))), Ent.box b4 25 (progCells p), Ent.map b39 [], Ent.row A j c 53 1 (bs.map mapT)] ++ mapsE bs (p.funs.take j))) (fun (j : Nat) (bs : List Nat) (A : Option Addr) (c : Nat) => j ≤ p.funs.length ∧ bs.length = j) (fun (j : Nat) (bs : List Nat) (A : Option Addr) (c : Nat) => p.funs.length - j) 0 ([]) none 0 ?_ ?_ ?_ ?_
 ·exact ⟨Nat.zero_le _, rfl⟩
 ·exact (su (su (su (su (su sn)))))
 ·rfl
 intro j bs A c hinv
 obtain ⟨hj, hbs⟩ := hinv
 refine rs (Y1 (Yv.lss rfl eV eV) (nl ?_))
 refine AW.seq ?_
 refine AW.cond rfl (fun h2t => ?_) (fun h2f => ?_)
 ·try replace h2t := odt h2t
  have hjl : j < p.funs.length := by omega
  have hfc := (hp.fn _ (getD_mem hjl)).code
  refine AW.skip ?_
  refine AW.seq ?_
  refine AW.block ?_
  refine rs (Y1 (Yv.indexSl rfl ss_22 (B rfl) eV eV (fun hg => ⟨rfl, (by first | omega | (simp only [len_code, len_funs, len_args, len_data]; omega))⟩)) ?_)
  refine Y1 (Yv.loadRpA rfl ag_51 eV (fun hg => fn_cells (by omega))) ?_
  refine AWL.allocOp rfl rfl (B rfl) rfl zc_51 (fun b13 => ?_)
  refine AWL.perm (List.perm_append_singleton _ _).symm ?_
  refine AWL.storeBox (i := 0) rfl rfl rfl ag_51 rfl (E rfl rfl) (E rfl rfl) rfl rfl nB (nl ?_)
  refine rs ?_
  refine AWL.makeMapOp rfl rfl (B rfl) rfl (fun b49 => ?_)
  refine AWL.perm (List.perm_append_singleton _ _).symm ?_
  refine ya ?_
  refine AW.seq ?_
  refine rs (yf fo_51_4 ?_)
  refine yl ag_49 1 ?_
  refine Y1 (Yv.lenSl rfl so_49 (B rfl) eV len_code) ?_
  refine ym (nl ?_)
  refine AW.block ?_
  refine AW.loop (fun (q : Nat) => [(4, true, pv b4), (11, true, pv b41), (43, true, .sl 5 (p.funs.flatMap fnCells)), (44, true, .v (.int .i64 (p.funs.length : Int))), (45, true, .v (.int .i64 (j : Int))), (13, true, pv b13), (14, true, .v (.map (some b49))), (51, true, .sl 11 ((p.funs.getD j default).code.flatMap insCells)), (52, true, .v (.int .i64 ((p.funs.getD j default).code.length : Int))), (53, true, .v (.int .i64 (q : Int)))]) (fun (q : Nat) => (.map b49 (lmT (whT (p.funs.getD j default).code q)) :: .box b13 51 (fnCells (p.funs.getD j default)) :: ([Ent.box b41 80 (psC (psN p (.v (.slice A j c)) heap strict (.v (.pointer (some aw))) (.v (.map (some b39)))) (.v (.slice none 0 0))), Ent.box b4 25 (progCells p), Ent.map b39 [], Ent.row A j c 53 1 (bs.map mapT)] ++ mapsE bs (p.funs.take j)))) (fun (q : Nat) => q ≤ (p.funs.getD j default).code.length) (fun (q : Nat) => (p.funs.getD j default).code.length - q) 0 ?_ ?_ ?_ ?_
  ·exact Nat.zero_le _
  ·exact (su (su (su (su (su (su (su (su (su (su sn))))))))))
  ·rfl
  intro q hq0
  refine rs (Y1 (Yv.lss rfl eV eV) (nl ?_))
  refine AW.seq ?_
  refine AW.cond rfl (fun h3t => ?_) (fun h3f => ?_)
  ·try replace h3t := odt h3t
   have hq : q < (p.funs.getD j default).code.length := by omega
   refine AW.skip ?_
   refine AW.seq ?_
   refine AW.block ?_
   refine rs (ym ?_)
   refine Y1 (Yv.indexSl rfl ss_49 (B rfl) eV eV (fun hg => ⟨rfl, (by first | omega | (simp only [len_code, len_funs, len_args, len_data]; omega))⟩)) ?_
   refine Y1 (Yv.loadRpA rfl ag_58 eV (fun hg => ins_cells (by omega))) ?_
   refine AWL.allocOp rfl rfl (B rfl) rfl zc_58 (fun b16 => ?_)
   refine AWL.perm (List.perm_append_singleton _ _).symm ?_
   refine Y1 (Yv.assign rfl eV) ?_
   refine AWL.storeBox (i := 0) rfl rfl rfl ag_58 rfl (E rfl rfl) (E rfl rfl) rfl rfl nB (nl ?_)
   refine rs (yf fo_58_0 ?_)
   refine yl ag_3 0 ?_
   refine Y1 (Yv.eql rfl eV eV) (nl ?_)
   refine AW.cond rfl (fun h4t => ?_) (fun h4f => ?_)
   ·try replace h4t := odt h4t
    refine AW.region ?_
    refine ym ?_
    refine yf fo_58_4 ?_
    refine yl ag_3 0 ?_
    refine ym ?_
    refine AWL.mapUpd (k := .i _ _) (i := 1) rfl rfl (.inl rfl) mp_53 rfl (E rfl rfl) (E rfl rfl) (E rfl rfl) rfl rfl (lm_good _ _ rfl) (nl ?_)
    refine AW.dropAt 0 ?_
    refine AW.region ?_
    refine Y1 (Yv.addN_i64 rfl eV eV (fun hg => by omega)) ?_
    refine ym (nl ?_)
    refine ⟨q + 1, by omega, by omega, (su (su (su (su (su (su (su (su (su (Sub.cons rfl (by simp) Sub.nil)))))))))), ?_⟩
    rw [wh_succ hq, whStep, if_pos h4t, ← put_lm]
    rfl
   try replace h4f := odf h4f
   refine AW.skip ?_
   refine AW.dropAt 0 ?_
   refine AW.region ?_
   refine Y1 (Yv.addN_i64 rfl eV eV (fun hg => by omega)) ?_
   refine ym (nl ?_)
   refine ⟨q + 1, by omega, by omega, (su (su (su (su (su (su (su (su (su (Sub.cons rfl (by simp) Sub.nil)))))))))), ?_⟩
   rw [wh_succ hq, whStep, if_neg h4f]
   rfl
  try replace h3f := odf h3f
  obtain rfl : q = (p.funs.getD j default).code.length := by omega
  rw [wh_all (Nat.le_refl _)]
  refine AW.exit ?_
  refine AW.region ?_
  refine ym ?_
  refine ym ?_
  refine Y1 (Yv.nilChk rfl eV) ?_
  refine yf fo_80_1 ?_
  refine yl ag_77 2 ?_
  refine ym ?_
  refine AWL.buildSlice1 rfl rfl (B rfl) rfl el_77 rfl (evsC (E rfl rfl) evs0) nB rfl rfl ?_
  refine AWL.appendRow (i := 5) rfl rfl (B rfl) rfl el_77 (B rfl) rfl (E rfl rfl) (SrcT.sl so_77 (B rfl) (E rfl rfl) rfl) (by unfold maxLen; omega) (by omega) (fun A73 c73 => ?_)
  refine Y1 (Yv.nilChk rfl eV) ?_
  refine yf fo_80_1 ?_
  refine AWL.storeBox (i := 2) rfl rfl rfl ag_77 rfl (E rfl rfl) (E rfl rfl) rfl rfl nB (nl ?_)
  refine AW.dropAt 1 ?_
  refine AW.perm (S' := ([Ent.box b41 80 (psC (psN p (.v (.slice A73 (j + 1) c73)) heap strict (.v (.pointer (some aw))) (.v (.map (some b39)))) (.v (.slice none 0 0))), Ent.box b4 25 (progCells p), Ent.map b39 [], Ent.row A73 (j + 1) c73 53 1 ((bs ++ [b49]).map mapT)] ++ mapsE bs (p.funs.take j)) ++ [.map b49 (lmT (whL (p.funs.getD j default).code))]) (by rw [List.map_append]; exact List.perm_append_singleton _ _) ?_
  refine AW.region ?_
  refine Y1 (Yv.addN_i64 rfl eV eV (fun hg => by omega)) ?_
  refine ym (nl ?_)
  refine ⟨j + 1, bs ++ [b49], A73, c73, ⟨by omega, by rw [List.length_append, hbs]; rfl⟩, by omega, (su (su (su (su (Sub.cons rfl (by simp) Sub.nil))))), ?_⟩
  rw [mapsE_succ hjl hbs, ← List.append_assoc]
 try replace h2f := odf h2f
 obtain rfl : j = p.funs.length := by omega
 refine AW.exit ?_
 refine AW.seq ?_
 refine rs (yf fo_25_1 ?_)
 refine yl ag_23 1 ?_
 refine Y1 (Yv.lenSl rfl so_23 (B rfl) eV len_data) ?_
 refine ym (nl ?_)
 refine AW.block ?_
 refine AW.loop (fun (i : Nat) => [(4, true, pv b4), (11, true, pv b41), (78, true, .sl 1 (p.data.map u8)), (79, true, .v (.int .i64 (p.data.length : Int))), (80, true, .v (.int .i64 (i : Int)))]) (fun (i : Nat) => ([Ent.box b41 80 (psC (psN p (.v (.slice A p.funs.length c)) heap strict (.v (.pointer (some aw))) (.v (.map (some b39)))) (.v (.slice none 0 0))), Ent.box b4 25 (progCells p), Ent.map b39 [], Ent.row A p.funs.length c 53 1 (bs.map mapT)] ++ mapsE bs (p.funs.take p.funs.length))) (fun (i : Nat) => True) (fun (i : Nat) => 0) 0 ?_ ?_ ?_ ?_
 ·trivial
 ·exact (su (su (su (su (su sn)))))
 ·rfl
 intro i hinv
 refine rs (Y1 (Yv.lss rfl eV eV) (nl ?_))
 refine AW.seq ?_
 refine AW.cond rfl (fun h5t => ?_) (fun h5f => ?_)
 ·try replace h5t := odt h5t
  exfalso; rw [hdat] at h5t; simp only [List.length_nil] at h5t; omega
 try replace h5f := odf h5f
 refine AW.exit ?_
 rw [List.take_length]
 refine AW.dropAt 1 ?_
 refine AW.rowNil 87 7 ?_
 refine AW.perm (S' := [Ent.box b41 80 (psC (psN p (.v (.slice A p.funs.length c)) heap strict (.v (.pointer (some aw))) (.v (.map (some b39)))) (.v (.slice none 0 0))), Ent.row none 0 0 87 7 []] ++ ([Ent.map b39 [], Ent.row A p.funs.length c 53 1 (bs.map mapT)] ++ mapsE bs p.funs)) (((List.perm_append_singleton _ _).symm).cons _) ?_
 refine rs (ym ?_)
 refine C1 rfl ce_31 (E rfl rfl) (evsC (E rfl rfl) (evsC (E rfl rfl) (evsC (E rfl rfl) (evsC (E rfl rfl) evs0)))) (S1 := [Ent.box b41 80 (psC (psN p (.v (.slice A p.funs.length c)) heap strict (.v (.pointer (some aw))) (.v (.map (some b39)))) (.v (.slice none 0 0))), Ent.row none 0 0 87 7 []]) (S2 := _) rfl ((open31 b41 (psN p (.v (.slice A p.funs.length c)) heap strict (.v (.pointer (some aw))) (.v (.map (some b39)))) 0 [] 0 none 0 0 [] hf0 hpf h0 h1 k0 k1 h0 (by omega)).le (Les.cons .refl (.cons .refl (.cons (nil_le 1) .refl)))) ?_
 rintro t93 S93 ⟨rfl, g, c2, a, rfl⟩
 refine nl ?_
 refine rs (ym ?_)
 refine Y1 (Yv.assign rfl eV) ?_
 refine ya ?_
 refine AW.ret (retI (.tmp rfl (.tmp rfl .nil)) ?_)
 exact ⟨b41, b39, A, c, bs, g, c2, a, rfl, hbs, rfl⟩

end Go.Proofs.Ytlfklgganokgdaa

namespace Go.Proofs.Ytlfklgganokgdaa
open Go Go.RowKit

set_option maxHeartbeats 400000 in
theorem Steps16 (s : Nat) (ps : PS) (cl : T) :
    ACalls Try.prog 16 [.v (.pointer (some ⟨s, 0, none⟩))] [.box s 80 (psC ps cl)] (fun t S => t = zi ps.steps ∧ S = [.box s 80 (psC ps cl)]) := by
 refine ACalls.intro Try.func16 rfl Try.ntmps16 nB rfl fun X w0 => ?_
 refine ra ?_
 refine AW.seq ?_
 refine rs (ym ?_)
 refine Y1 (Yv.eqlNilP rfl pn_36 eV) (nl ?_)
 refine AW.cond rfl (fun h0t => ?_) (fun h0f => ?_)
 ·cases h0t
 refine AW.skip ?_
 refine rs (ym ?_)
 refine Y1 (Yv.nilChk rfl eV) ?_
 refine yf fo_80_11 ?_
 refine yl ag_3 0 ?_
 refine ya ?_
 refine AW.ret (retI (.tmp rfl .nil) ?_)
 exact ⟨rfl, rfl⟩

set_option maxHeartbeats 400000 in
theorem Code17 (s : Nat) (ps : PS) (cl : T) :
    ACalls Try.prog 17 [.v (.pointer (some ⟨s, 0, none⟩))] [.box s 80 (psC ps cl)] (fun t S => t = zi ps.code ∧ S = [.box s 80 (psC ps cl)]) := by
 refine ACalls.intro Try.func17 rfl Try.ntmps17 nB rfl fun X w0 => ?_
 refine ra ?_
 refine AW.seq ?_
 refine rs (ym ?_)
 refine Y1 (Yv.eqlNilP rfl pn_36 eV) (nl ?_)
 refine AW.cond rfl (fun h0t => ?_) (fun h0f => ?_)
 ·cases h0t
 refine AW.skip ?_
 refine rs (ym ?_)
 refine Y1 (Yv.nilChk rfl eV) ?_
 refine yf fo_80_10 ?_
 refine yl ag_3 0 ?_
 refine ya ?_
 refine AW.ret (retI (.tmp rfl .nil) ?_)
 exact ⟨rfl, rfl⟩

set_option maxHeartbeats 400000 in
theorem clone43e  :
    ACalls Try.prog 43 [sv []] [] (fun t S => t = sv []) := by
 refine ACalls.intro Try.func43 rfl Try.ntmps43 nB rfl fun X w0 => ?_
 refine ra ?_
 refine AW.seq ?_
 refine rs (ym ?_)
 refine Y1 (Yv.lenL rfl st_9 eV) ?_
 refine Y1 (Yv.eql rfl eV eV) (nl ?_)
 refine AW.cond rfl (fun h0t => ?_) (fun h0f => ?_)
 ·try replace h0t := odt h0t
  refine ra ?_
  refine AW.ret (retI (.tmp rfl .nil) ?_)
  rfl
 try replace h0f := odf h0f
 exfalso; simp at h0f

set_option maxHeartbeats 400000 in
theorem clone27e  :
    ACalls Try.prog 27 [sv []] [] (fun t S => t = sv []) := by
 refine ACalls.intro Try.func27 rfl Try.ntmps27 nB rfl fun X w0 => ?_
 refine ra ?_
 refine rs (ym ?_)
 refine AWL.callT rfl rfl (B rfl) rfl ce_43 (E rfl rfl) (evsC (E rfl rfl) evs0) (clone43e) ?_
 rintro t4 S4 rfl
 refine ya ?_
 refine AW.ret (retI (.tmp rfl .nil) ?_)
 rfl

set_option maxHeartbeats 2000000 in
theorem New12e  :
    ACalls Try.prog 12 [.agg [sv [], .v (.slice none 0 0)]] [] (fun t S => ∃ aw, t = .v (.pointer (some aw))) := by
 refine ACalls.intro Try.func12 rfl Try.ntmps12 nB rfl fun X w0 => ?_
 refine rs ?_
 refine AWL.boxOp rfl rfl (B rfl) rfl (E rfl rfl) rfl (fun b1 => ?_)
 refine ya ?_
 refine rs ?_
 refine AWL.makeMapOp rfl rfl (B rfl) rfl (fun b8 => ?_)
 refine yf fo_33_0 ?_
 refine yl ag_9 0 ?_
 refine AWL.callT rfl rfl (B rfl) rfl ce_27 (E rfl rfl) (evsC (E rfl rfl) evs0) (clone27e) ?_
 rintro t11 S11 rfl
 refine Y1 (Yv.buildS rfl sh_70 (evpC eV (evpC eV evp0)) (fun _ => rfl)) ?_
 refine AWL.boxOp rfl rfl (B rfl) rfl (E rfl rfl) rfl (fun b13 => ?_)
 refine ya ?_
 refine AW.seq ?_
 refine rs (yf fo_33_1 ?_)
 refine yl ag_31 0 ?_
 refine Y1 (Yv.lenV rfl so_31 eV) ?_
 refine ym (nl ?_)
 refine AW.block ?_
 refine AW.loop (fun (j : Nat) => [(3, true, pv b13), (16, true, .v (.int .i64 (0 : Int))), (17, true, .v (.int .i64 (0 : Int)))]) (fun (j : Nat) => [.box b1 33 [sv [], .v (.slice none 0 0)], .map b8 [], .box b13 70 [.v (.map (some b8)), sv [], .v (.int .i64 0), .v (.string ⟨#[]⟩), .v (.int .i64 0), .v (.int .i64 0), .v (.string ⟨#[]⟩), .v (.int .i64 0), .v (.int .i64 0), .v (.string ⟨#[]⟩), .v (.int .i64 0), .v (.int .i64 0), .v (.string ⟨#[]⟩), .v (.int .i64 0), .v (.int .i64 0), .v (.string ⟨#[]⟩), .v (.int .i64 0), .v (.int .i64 0), .v (.string ⟨#[]⟩), .v (.int .i64 0), .v (.int .i64 0), .v (.string ⟨#[]⟩), .v (.int .i64 0), .v (.int .i64 0), .v (.string ⟨#[]⟩), .v (.int .i64 0), .v (.int .i64 0), .v (.string ⟨#[]⟩), .v (.int .i64 0), .v (.int .i64 0), .v (.string ⟨#[]⟩), .v (.int .i64 0), .v (.int .i64 0), .v (.string ⟨#[]⟩), .v (.int .i64 0), .v (.int .i64 0), .v (.string ⟨#[]⟩), .v (.int .i64 0), .v (.int .i64 0), .v (.string ⟨#[]⟩), .v (.int .i64 0), .v (.int .i64 0), .v (.string ⟨#[]⟩), .v (.int .i64 0), .v (.int .i64 0), .v (.string ⟨#[]⟩), .v (.int .i64 0), .v (.int .i64 0), .v (.string ⟨#[]⟩), .v (.int .i64 0), .v (.int .i64 0), .v (.string ⟨#[]⟩), .v (.int .i64 0), .v (.int .i64 0), .v (.string ⟨#[]⟩), .v (.int .i64 0), .v (.int .i64 0), .v (.string ⟨#[]⟩), .v (.int .i64 0), .v (.slice none 0 0)]]) (fun (j : Nat) => True) (fun (j : Nat) => 0) 0 ?_ ?_ ?_ ?_
 ·trivial
 ·exact (su (su (su sn)))
 ·rfl
 intro j hinv
 refine rs (Y1 (Yv.lss rfl eV eV) (nl ?_))
 refine AW.seq ?_
 refine AW.cond rfl (fun h0t => ?_) (fun h0f => ?_)
 ·try replace h0t := odt h0t
  exfalso; omega
 try replace h0f := odf h0f
 refine AW.exit ?_
 refine AW.rseqP rfl ?_
 refine T1 (i := 0) rfl (freeMove rfl (E rfl rfl)) ?_
 refine T1 (i := 1) rfl (freeMove rfl (E rfl rfl)) ?_
 refine T1 (i := 2) rfl (freeMove rfl (E rfl rfl)) ?_
 refine T1 (i := 3) rfl (freeNil rfl (E rfl rfl)) ?_
 refine T1 (i := 4) rfl (freeField rfl fo_70_2 (E rfl rfl)) ?_
 refine T1 (i := 5) rfl (freeArr (j := 0) rfl ar_68 (E rfl rfl) (E rfl rfl) ⟨rfl, by decide⟩) ?_
 refine T1 (i := 6) rfl (freeField rfl fo_67_0 (E rfl rfl)) ?_
 refine T1 (i := 8) rfl (freeNil rfl (E rfl rfl)) ?_
 refine T1 (i := 9) rfl (freeField rfl fo_70_2 (E rfl rfl)) ?_
 refine T1 (i := 13) rfl (freeNil rfl (E rfl rfl)) ?_
 refine T1 (i := 14) rfl (freeField rfl fo_70_2 (E rfl rfl)) ?_
 refine p1 7 ?_
 refine AWL.storeBox (i := 2) rfl rfl rfl ag_3 rfl (E rfl rfl) (E rfl rfl) rfl rfl nB (nl ?_)
 refine p1 10 ?_
 refine Y1 (Yv.indexArr (j := 1) rfl ar_68 (E rfl rfl) (E rfl rfl) (fun hg => ⟨rfl, by decide⟩)) (nl ?_)
 refine p1 11 ?_
 refine yf fo_67_0 (nl ?_)
 refine p1 12 ?_
 refine AWL.storeBox (i := 2) rfl rfl rfl ag_3 rfl (E rfl rfl) (E rfl rfl) rfl rfl nB (nl ?_)
 refine p1 15 ?_
 refine Y1 (Yv.indexArr (j := 2) rfl ar_68 (E rfl rfl) (E rfl rfl) (fun hg => ⟨rfl, by decide⟩)) (nl ?_)
 refine p1 16 ?_
 refine yf fo_67_0 (nl ?_)
 refine p1 17 ?_
 refine AWL.storeBox (i := 2) rfl rfl rfl ag_3 rfl (E rfl rfl) (E rfl rfl) rfl rfl nB (nl ?_)
 refine AWP.done (by kernel_rfl) ?_
 refine rs (ym ?_)
 refine ya ?_
 refine AW.ret (retI (.tmp rfl .nil) ?_)
 exact ⟨_, rfl⟩

theorem knownA (b41 b39 g c2 c : Nat) (aw : Addr) (A : Option Addr) (a : FA) : ACalls Try.prog 15 [.v (.pointer (some ⟨b41, 0, none⟩)), zi 3] ([Ent.box b41 80 (psC (psL (.v (.pointer (some aw))) (.v (.map (some b39))) (.v (.slice A 1 c))) (.v (.slice (some ⟨g, 0, none⟩) 1 c2))), Ent.row (some ⟨g, 0, none⟩) 1 c2 87 7 (([] : List T) ++ frC frL a)] ++ frR frL a) (fun t S => t = zi 0 ∧ S = ([Ent.box b41 80 (psC (ps1 (.v (.pointer (some aw))) (.v (.map (some b39))) (.v (.slice A 1 c))) (.v (.slice (some ⟨g, 0, none⟩) 1 c2))), Ent.row (some ⟨g, 0, none⟩) 1 c2 87 7 (([] : List T) ++ frC (fr1L (.v (.pointer (some aw))) (.v (.map (some b39))) (.v (.slice A 1 c))) a)] ++ frR (fr1L (.v (.pointer (some aw))) (.v (.map (some b39))) (.v (.slice A 1 c))) a)) :=
 (Run15A b41 g c2 (psL (.v (.pointer (some aw))) (.v (.map (some b39))) (.v (.slice A 1 c))) frL a 3 little 0 3 0 codeL 100 (by decide) rfl (by decide) littleA (ra0 (.v (.pointer (some aw))) (.v (.map (some b39))) (.v (.slice A 1 c))) ⟨by decide, show (0 : Int) ≤ 0 from Int.le_refl _, show (0 : Int) + 3 ≤ 4611686018427387904 from by decide⟩ (by decide)).mono fun t S h => by
  rw [ps1_eq, fr1_eq] at h
  exact ⟨by rw [h.1, ps1_st], h.2⟩
theorem knownB (b41 b39 g c2 c : Nat) (aw : Addr) (A : Option Addr) (a : FA) : ACalls Try.prog 15 [.v (.pointer (some ⟨b41, 0, none⟩)), zi 9] ([Ent.box b41 80 (psC (ps1 (.v (.pointer (some aw))) (.v (.map (some b39))) (.v (.slice A 1 c))) (.v (.slice (some ⟨g, 0, none⟩) 1 c2))), Ent.row (some ⟨g, 0, none⟩) 1 c2 87 7 (([] : List T) ++ frC (fr1L (.v (.pointer (some aw))) (.v (.map (some b39))) (.v (.slice A 1 c))) a)] ++ frR (fr1L (.v (.pointer (some aw))) (.v (.map (some b39))) (.v (.slice A 1 c))) a) (fun t S => t = zi 1 ∧ S = ([Ent.box b41 80 (psC (ps2 (.v (.pointer (some aw))) (.v (.map (some b39))) (.v (.slice A 1 c))) (.v (.slice (some ⟨g, 0, none⟩) 1 c2))), Ent.row (some ⟨g, 0, none⟩) 1 c2 87 7 (([] : List T) ++ frC (fr2L (.v (.pointer (some aw))) (.v (.map (some b39))) (.v (.slice A 1 c))) a)] ++ frR (fr2L (.v (.pointer (some aw))) (.v (.map (some b39))) (.v (.slice A 1 c))) a)) :=
 (Run15A b41 g c2 (ps1 (.v (.pointer (some aw))) (.v (.map (some b39))) (.v (.slice A 1 c))) (fr1L (.v (.pointer (some aw))) (.v (.map (some b39))) (.v (.slice A 1 c))) a 9 little 0 3 0 codeL 100 (by decide) rfl (by decide) littleA (ra1 (.v (.pointer (some aw))) (.v (.map (some b39))) (.v (.slice A 1 c))) ⟨by decide, by rw [ps1_steps]; decide, by rw [ps1_steps]; decide⟩ (by rw [ra1_at]; decide)).mono fun t S h => by
  rw [ps2_eq, fr2_eq] at h
  exact ⟨by rw [h.1, ps2_st], h.2⟩
theorem knownC (b41 b39 g c2 c : Nat) (aw : Addr) (A : Option Addr) (a : FA) (cl : T) : ACalls Try.prog 17 [.v (.pointer (some ⟨b41, 0, none⟩))] [.box b41 80 (psC (ps2 (.v (.pointer (some aw))) (.v (.map (some b39))) (.v (.slice A 1 c))) cl)] (fun t S => t = zi 254 ∧ S = [.box b41 80 (psC (ps2 (.v (.pointer (some aw))) (.v (.map (some b39))) (.v (.slice A 1 c))) cl)]) :=
 (Code17 b41 (ps2 (.v (.pointer (some aw))) (.v (.map (some b39))) (.v (.slice A 1 c))) cl).mono fun t S h => ⟨by rw [h.1, ps2_code], h.2⟩
theorem knownD (b41 b39 g c2 c : Nat) (aw : Addr) (A : Option Addr) (a : FA) (cl : T) : ACalls Try.prog 16 [.v (.pointer (some ⟨b41, 0, none⟩))] [.box b41 80 (psC (ps2 (.v (.pointer (some aw))) (.v (.map (some b39))) (.v (.slice A 1 c))) cl)] (fun t S => t = zi 4 ∧ S = [.box b41 80 (psC (ps2 (.v (.pointer (some aw))) (.v (.map (some b39))) (.v (.slice A 1 c))) cl)]) :=
 (Steps16 b41 (ps2 (.v (.pointer (some aw))) (.v (.map (some b39))) (.v (.slice A 1 c))) cl).mono fun t S h => ⟨by rw [h.1, ps2_steps], h.2⟩
theorem knownE : ACalls Try.prog 9 [littleRaw] [] (fun t S => t = bv true) :=
 ((Strict9 little little_in).mono fun t S ⟨b, h, hb⟩ => by rw [h, hb.2 little_strict]).le (.cons little_le .refl)
theorem knownF : ACalls Try.prog 6 [.agg [nilT, nilT, zi 0]] [] (fun t S => t = zi 130) :=
 ((Check6 emptyP empty_in).mono fun t S h => by rw [h, empty_check]).le (.cons (Le.agg (.cons (nil_le 5) (.cons (nil_le 1) .refl))) .refl)
set_option maxHeartbeats 4000000 in
theorem known11  :
    ACalls Try.prog 11 [] [] (fun t S => t = bv true) := by
 refine ACalls.intro Try.func11 rfl Try.ntmps11 nB rfl fun X w0 => ?_
 refine ra ?_
 refine rs ?_
 refine AWL.callT rfl rfl (B rfl) rfl ce_26 (E rfl rfl) evs0 (little26) ?_
 rintro t6 S6 rfl
 refine Y1 (Yv.buildS rfl sh_33 evp0 (fun _ => rfl)) ?_
 refine AWL.callT rfl rfl (B rfl) rfl ce_12 (E rfl rfl) (evsC (E rfl rfl) evs0) (New12e) ?_
 rintro t8 S8 ⟨aw, rfl⟩
 refine C1 rfl ce_13 (E rfl rfl) (evsC (E rfl rfl) (evsC (E rfl rfl) (evsC (E rfl rfl) (evsC (E rfl rfl) evs0)))) (S1 := []) (S2 := _) rfl ((New13N little 65536#64 true aw little_in little_check (by decide) (by decide) rfl (by decide) (by decide) (by decide) (by decide) (by decide)).le (Les.cons little_le .refl)) ?_
 rintro t9 S9 ⟨b41, b39, A, c, bs, g, c2, a, rfl, hbs, rfl⟩
 refine ym ?_
 refine Y1 (Yv.extract rfl eV rfl) ?_
 refine Y1 (Yv.extract rfl eV rfl) ?_
 refine Y1 (Yv.assign rfl eV) ?_
 refine ya ?_
 refine AW.seq ?_
 refine AW.drop (S' := ([Ent.box b41 80 (psC (psL (.v (.pointer (some aw))) (.v (.map (some b39))) (.v (.slice A 1 c))) (.v (.slice (some ⟨g, 0, none⟩) 1 c2))), Ent.row (some ⟨g, 0, none⟩) 1 c2 87 7 (([] : List T) ++ frC frL a)] ++ frR frL a)) ((List.sublist_append_left _ _).trans (List.sublist_append_left _ _)) ?_
 refine rs (ym ?_)
 refine Y1 (Yv.neq rfl eV eV) ?_
 refine ym ?_
 refine gF (Yv.move rfl eV) ?_
 refine gF (Yv.eqlNilP rfl pn_36 (Eg rfl rfl id)) ?_
 refine Y1 (Yv.pickOr (t := .const (.bool true)) rfl eV (Eg rfl rfl id)) (nl ?_)
 refine AW.cond rfl (fun h0t => ?_) (fun h0f => ?_)
 ·exfalso; simp at h0t
 refine AW.skip ?_
 refine rs (ym ?_)
 refine C1 rfl ce_15 (E rfl rfl) (evsC (E rfl rfl) (evsC (E rfl rfl) evs0)) (S1 := ([Ent.box b41 80 (psC (psL (.v (.pointer (some aw))) (.v (.map (some b39))) (.v (.slice A 1 c))) (.v (.slice (some ⟨g, 0, none⟩) 1 c2))), Ent.row (some ⟨g, 0, none⟩) 1 c2 87 7 (([] : List T) ++ frC frL a)] ++ frR frL a)) (S2 := _) rfl (knownA b41 b39 g c2 c aw A a) ?_
 rintro t19 S19 ⟨rfl, rfl⟩
 refine ya ?_
 refine rs (ym ?_)
 refine C1 rfl ce_15 (E rfl rfl) (evsC (E rfl rfl) (evsC (E rfl rfl) evs0)) (S1 := ([Ent.box b41 80 (psC (ps1 (.v (.pointer (some aw))) (.v (.map (some b39))) (.v (.slice A 1 c))) (.v (.slice (some ⟨g, 0, none⟩) 1 c2))), Ent.row (some ⟨g, 0, none⟩) 1 c2 87 7 (([] : List T) ++ frC (fr1L (.v (.pointer (some aw))) (.v (.map (some b39))) (.v (.slice A 1 c))) a)] ++ frR (fr1L (.v (.pointer (some aw))) (.v (.map (some b39))) (.v (.slice A 1 c))) a)) (S2 := _) rfl (knownB b41 b39 g c2 c aw A a) ?_
 rintro t21 S21 ⟨rfl, rfl⟩
 refine ya ?_
 refine rs (ym ?_)
 refine Y1 (Yv.eql rfl eV eV) ?_
 refine ym ?_
 refine AWL.unguard rfl rfl rfl rfl ?_
 refine ym ?_
 refine AWL.unguard rfl rfl rfl rfl ?_
 refine Y1 (Yv.eql rfl eV eV) ?_
 refine Y1 (Yv.pickAnd rfl eV eV) ?_
 refine ym ?_
 refine AWL.unguard rfl rfl rfl rfl ?_
 refine ym ?_
 refine AWL.unguard rfl rfl rfl rfl ?_
 refine AWL.callK rfl rfl (B rfl) rfl ce_17 (E rfl rfl) (evsC (E rfl rfl) evs0) (S1 := [Ent.box b41 80 (psC (ps2 (.v (.pointer (some aw))) (.v (.map (some b39))) (.v (.slice A 1 c))) (.v (.slice (some ⟨g, 0, none⟩) 1 c2)))]) (S2 := _) rfl (knownC b41 b39 g c2 c aw A a _) (fun t S h => h) ?_
 refine AWL.unguard rfl rfl rfl rfl ?_
 refine Y1 (Yv.eql rfl eV eV) ?_
 refine Y1 (Yv.pickAnd rfl eV eV) ?_
 refine ym ?_
 refine AWL.unguard rfl rfl rfl rfl ?_
 refine ym ?_
 refine AWL.unguard rfl rfl rfl rfl ?_
 refine AWL.callK rfl rfl (B rfl) rfl ce_16 (E rfl rfl) (evsC (E rfl rfl) evs0) (S1 := [Ent.box b41 80 (psC (ps2 (.v (.pointer (some aw))) (.v (.map (some b39))) (.v (.slice A 1 c))) (.v (.slice (some ⟨g, 0, none⟩) 1 c2)))]) (S2 := _) rfl (knownD b41 b39 g c2 c aw A a _) (fun t S h => h) ?_
 refine AWL.unguard rfl rfl rfl rfl ?_
 refine Y1 (Yv.eql rfl eV eV) ?_
 refine Y1 (Yv.pickAnd rfl eV eV) ?_
 refine ym ?_
 refine AWL.unguard rfl rfl rfl rfl ?_
 refine AWL.callT rfl rfl (B rfl) rfl ce_26 (E rfl rfl) evs0 (little26) ?_
 rintro t39 S39 rfl
 refine AWL.unguard rfl rfl rfl rfl ?_
 refine AWL.callT rfl rfl (B rfl) rfl ce_9 (E rfl rfl) (evsC (E rfl rfl) evs0) (knownE) ?_
 rintro t40 S40 rfl
 refine Y1 (Yv.pickAnd rfl eV eV) ?_
 refine ym ?_
 refine AWL.unguard rfl rfl rfl rfl ?_
 refine Y1 (Yv.buildS rfl sh_25 evp0 (fun _ => rfl)) ?_
 refine AWL.unguard rfl rfl rfl rfl ?_
 refine AWL.callT rfl rfl (B rfl) rfl ce_6 (E rfl rfl) (evsC (E rfl rfl) evs0) (knownF) ?_
 rintro t44 S44 rfl
 refine AWL.unguard rfl rfl rfl rfl ?_
 refine Y1 (Yv.eql rfl eV eV) ?_
 refine Y1 (Yv.pickAnd rfl eV eV) ?_
 refine ya ?_
 refine AW.ret (retI (.tmp rfl .nil) ?_)
 rfl

end Go.Proofs.Ytlfklgganokgdaa

namespace Go.Proofs.Ytlfklgganokgdaa
open Go Go.RowKit

noncomputable def strictP (p : Prog) : Bool := @decide (StrictP p) (Classical.propDecidable _)
theorem strictP_eq {p : Prog} {b : Bool} (h : b = true ↔ StrictP p) : b = strictP p := by
 unfold strictP
 cases b with
 | true => exact (@decide_eq_true _ (Classical.propDecidable _) (h.1 rfl)).symm
 | false => exact (@decide_eq_false _ (Classical.propDecidable _) (fun q => Bool.false_ne_true (h.2 q))).symm
theorem strictA (p : Prog) (hp : ProgIn p) : ACalls Try.prog 9 [.agg (progCells p)] [] (fun t S => t = bv (strictP p)) :=
 (Strict9 p hp).mono fun t S ⟨b, h, hb⟩ => by rw [h, strictP_eq hb]
end Go.Proofs.Ytlfklgganokgdaa

namespace Go.Proofs.Ytlfklgganokgdaa
open Go Go.RowKit
structure Pg where
 n : Wd64
 b : Nat
 bs : List UInt8
deriving Inhabited
def wk (n : Wd64) : Key := .i .u64 (n.toNat : Int)
theorem wk_inj {n m : Wd64} (h : wk n = wk m) : n = m := by
 unfold wk at h
 injection h with _ h
 exact BitVec.eq_of_toNat_eq (by omega)
def pgT (l : List Pg) : List (Key × T) := l.map fun p => (wk p.n, .v (.pointer (some ⟨p.b, 0, none⟩)))
def pgI (n : Wd64) : List Pg → Option Nat
 | [] => none
 | p :: r => if p.n = n then some 0 else (pgI n r).map (· + 1)
theorem pgI_lt {n : Wd64} : ∀ {l : List Pg} {j : Nat}, pgI n l = some j → j < l.length ∧ (l.getD j default).n = n
 | [], j, h => by cases h
 | p :: r, j, h => by
  rw [pgI] at h
  split at h
  ·rename_i he
   cases h
   exact ⟨by simp, he⟩
  ·cases hq : pgI n r with
   | none => rw [hq] at h; cases h
   | some q =>
    rw [hq] at h
    simp only [Option.map_some, Option.some.injEq] at h
    subst h
    have := pgI_lt hq
    exact ⟨by simp only [List.length_cons]; omega, this.2⟩
theorem getK_pg (n : Wd64) : ∀ l : List Pg, getK (wk n) (pgT l) = (pgI n l).map fun j => .v (.pointer (some ⟨(l.getD j default).b, 0, none⟩))
 | [] => rfl
 | p :: r => by
  show getK (wk n) ((wk p.n, _) :: pgT r) = _
  rw [getK, pgI]
  by_cases h : p.n = n
  ·rw [if_pos (by rw [h]), if_pos h]; rfl
  ·rw [if_neg (fun e => h (wk_inj e)), if_neg h, getK_pg n r]
   cases pgI n r <;> rfl
theorem putK_pg (n : Wd64) (b : Nat) (bs : List UInt8) : ∀ l : List Pg, pgI n l = none → putK (wk n) (.v (.pointer (some ⟨b, 0, none⟩))) (pgT l) = pgT (l ++ [⟨n, b, bs⟩])
 | [], _ => rfl
 | p :: r, h => by
  rw [pgI] at h
  split at h
  ·cases h
  ·rename_i he
   have h' : pgI n r = none := by
    cases hq : pgI n r with
    | none => rfl
    | some q => rw [hq] at h; cases h
   show putK (wk n) _ ((wk p.n, _) :: pgT r) = _
   rw [putK, if_neg (fun e => he (wk_inj e)), putK_pg n b bs r h']
   rfl
theorem good_pg (l : List Pg) : ∀ e ∈ pgT l, goodK (.int .u64) e.1 = true := fun e he => by
 obtain ⟨p, _, rfl⟩ := List.mem_map.1 he
 rfl
def pgE (ty : TypeId) (l : List Pg) : St := l.map fun p => .box p.b ty (p.bs.map u8)
theorem pgE_at {ty : TypeId} {l : List Pg} {j : Nat} (h : j < l.length) : (pgE ty l)[j]? = some (.box (l.getD j default).b ty ((l.getD j default).bs.map u8)) := by
 rw [pgE, List.getElem?_map, List.getElem?_eq_getElem h, gd h]; rfl
theorem pgE_app (ty : TypeId) (l l' : List Pg) : pgE ty (l ++ l') = pgE ty l ++ pgE ty l' := List.map_append
def pgSet (l : List Pg) (j : Nat) (k : Nat) (x : UInt8) : List Pg := l.set j { l.getD j default with bs := (l.getD j default).bs.set k x }
theorem pgT_set {l : List Pg} {j : Nat} (h : j < l.length) (k : Nat) (x : UInt8) : pgT (pgSet l j k x) = pgT l := by
 unfold pgT pgSet
 apply List.ext_getElem?
 intro i
 rw [List.getElem?_map, List.getElem?_map, List.getElem?_set]
 split
 ·rename_i e
  subst e
  rw [List.getElem?_eq_getElem h, gd h]; rfl
 rfl
theorem pgE_set {ty : TypeId} {l : List Pg} {j : Nat} (h : j < l.length) (k : Nat) (x : UInt8) : (pgE ty l).set j (.box (l.getD j default).b ty (((l.getD j default).bs.map u8).set k (u8 x))) = pgE ty (pgSet l j k x) := by
 unfold pgE pgSet
 rw [← List.map_set, List.map_set (f := fun p : Pg => Ent.box p.b ty (p.bs.map u8))]
theorem pgI_set (n : Wd64) {l : List Pg} {j : Nat} (h : j < l.length) (k : Nat) (x : UInt8) : pgI n (pgSet l j k x) = pgI n l := by
 induction l generalizing j with
 | nil => exact absurd h (Nat.not_lt_zero j)
 | cons p r ih =>
  cases j with
  | zero => rfl
  | succ j =>
   have e : pgSet (p :: r) (j + 1) k x = p :: pgSet r j k x := rfl
   rw [e, pgI, pgI, ih (Nat.lt_of_succ_lt_succ h)]
theorem pgI_app (n : Wd64) (l : List Pg) (p : Pg) : pgI n (l ++ [p]) = match pgI n l with | some j => some j | none => if p.n = n then some l.length else none := by
 induction l with
 | nil => simp only [List.nil_append, pgI]; split <;> rfl
 | cons q r ih =>
  rw [List.cons_append, pgI, pgI, ih]
  by_cases h : q.n = n
  ·rw [if_pos h, if_pos h]
  ·rw [if_neg h, if_neg h]
   cases pgI n r with
   | some j => rfl
   | none =>
    by_cases hp : p.n = n
    ·simp only [if_pos hp, Option.map_none, Option.map_some, List.length_cons]
    ·simp only [if_neg hp, Option.map_none]
abbrev Mf := Wd64 → UInt8
def getM (l : List Pg) : Mf := fun at_ => match pgI (at_ / 4096#64) l with | some j => (l.getD j default).bs.getD (at_ % 4096#64).toNat 0 | none => 0
def updM (m : Mf) (a : Wd64) (x : UInt8) : Mf := fun z => if z = a then x else m z
def PgOk (l : List Pg) : Prop := ∀ j, j < l.length → (l.getD j default).bs.length = 4096
theorem PgOk.set {l : List Pg} (h : PgOk l) (j k : Nat) (x : UInt8) : PgOk (pgSet l j k x) := by
 intro i hi
 unfold pgSet at hi ⊢
 rw [List.length_set] at hi
 rw [List.getD_eq_getElem?_getD, List.getElem?_set]
 split
 ·rename_i e
  subst e
  rw [if_pos hi]
  show ((l.getD j default).bs.set k x).length = 4096
  rw [List.length_set]; exact h j hi
 rw [← List.getD_eq_getElem?_getD]; exact h i hi
theorem PgOk.app {l : List Pg} (h : PgOk l) {p : Pg} (hp : p.bs.length = 4096) : PgOk (l ++ [p]) := by
 intro i hi
 rw [List.length_append, List.length_singleton] at hi
 rw [List.getD_eq_getElem?_getD]
 rcases Nat.lt_or_ge i l.length with h1 | h1
 ·rw [List.getElem?_append_left h1, ← List.getD_eq_getElem?_getD]; exact h i h1
 rw [List.getElem?_append_right h1, show i - l.length = 0 by omega]; exact hp
theorem lt4096 (a : Wd64) : (a % 4096#64).toNat < 4096 := by
 rw [BitVec.toNat_umod]; exact Nat.mod_lt _ (by decide)
theorem split_eq {a z : Wd64} (h1 : z / 4096#64 = a / 4096#64) (h2 : (z % 4096#64).toNat = (a % 4096#64).toNat) : z = a := by
 apply BitVec.eq_of_toNat_eq
 have e1 := congrArg BitVec.toNat h1
 rw [BitVec.toNat_udiv, BitVec.toNat_udiv] at e1
 rw [BitVec.toNat_umod, BitVec.toNat_umod] at h2
 have n4 : (4096#64 : Wd64).toNat = 4096 := rfl
 rw [n4] at e1 h2
 have := Nat.div_add_mod z.toNat 4096
 have := Nat.div_add_mod a.toNat 4096
 omega
theorem get_set {l : List Pg} {a : Wd64} {j : Nat} (hj : pgI (a / 4096#64) l = some j) (hl : PgOk l) (x : UInt8) : getM (pgSet l j (a % 4096#64).toNat x) = updM (getM l) a x := by
 obtain ⟨hlt, hn⟩ := pgI_lt hj
 have hlen := hl j hlt
 funext z
 unfold getM updM
 rw [pgI_set _ hlt]
 by_cases hz : z = a
 ·subst hz
  rw [if_pos rfl, hj]
  show ((pgSet l j _ x).getD j default).bs.getD _ 0 = x
  unfold pgSet
  rw [List.getD_eq_getElem?_getD (l := l.set j _), List.getElem?_set_self hlt]
  show ((l.getD j default).bs.set _ x).getD _ 0 = x
  rw [List.getD_eq_getElem?_getD, List.getElem?_set_self (by rw [hlen]; exact lt4096 z)]; rfl
 rw [if_neg hz]
 cases hq : pgI (z / 4096#64) l with
 | none => simp only [hq]
 | some i =>
  simp only [hq]
  obtain ⟨hi, hin⟩ := pgI_lt hq
  show ((pgSet l j _ x).getD i default).bs.getD _ 0 = (l.getD i default).bs.getD _ 0
  unfold pgSet
  rw [List.getD_eq_getElem?_getD (l := l.set j _), List.getElem?_set]
  split
  ·rename_i e
   subst e
   show ((l.getD j default).bs.set _ x).getD _ 0 = _
   rw [List.getD_eq_getElem?_getD, List.getElem?_set_ne, ← List.getD_eq_getElem?_getD]
   intro e2
   exact hz (split_eq (hin.symm.trans hn) e2.symm)
  ·rw [← List.getD_eq_getElem?_getD]
def zeros4 : List UInt8 := List.replicate 4096 0
theorem get_new {l : List Pg} {a : Wd64} (b : Nat) (hj : pgI (a / 4096#64) l = none) : getM (l ++ [⟨a / 4096#64, b, zeros4⟩]) = getM l := by
 funext z
 unfold getM
 rw [pgI_app]
 cases hq : pgI (z / 4096#64) l with
 | some j =>
  have := (pgI_lt hq).1
  show ((l ++ [_]).getD j default).bs.getD _ 0 = (l.getD j default).bs.getD _ 0
  rw [List.getD_eq_getElem?_getD (l := l ++ _), List.getElem?_append_left this, ← List.getD_eq_getElem?_getD]
 | none =>
  by_cases h : a / 4096#64 = z / 4096#64
  ·simp only [if_pos h]
   rw [List.getD_eq_getElem?_getD (l := l ++ _), List.getElem?_append_right (Nat.le_refl _), Nat.sub_self]
   show zeros4.getD _ 0 = 0
   unfold zeros4
   rw [List.getD_eq_getElem?_getD, List.getElem?_replicate]
   split <;> rfl
  ·simp only [if_neg h]
theorem new_I {l : List Pg} {a : Wd64} (b : Nat) (hj : pgI (a / 4096#64) l = none) : pgI (a / 4096#64) (l ++ [⟨a / 4096#64, b, zeros4⟩]) = some l.length := by
 rw [pgI_app, hj]; simp
def memE (ty : TypeId) (pg : Nat) (l : List Pg) : St := .map pg (pgT l) :: pgE ty l
def bw (x : UInt8) : Wd64 := wI (x.toNat : Int)
def lowB (x : Wd64) : UInt8 := UInt8.ofNat x.toNat
def leF (m : Mf) (a : Wd64) : Nat → Wd64
 | 0 => 0#64
 | n + 1 => leF m a n ||| (bw (m (a + wI (n : Int))) <<< (8 * n))
def putsF (m : Mf) (a x : Wd64) : Nat → Mf
 | 0 => m
 | n + 1 => updM (putsF m a x n) (a + wI (n : Int)) (lowB (x >>> (8 * n)))
theorem low_u8 (x : Wd64) : T.v (.int .u8 (IntKind.u8.wrap (x.toNat : Int))) = u8 (lowB x) := by
 unfold u8 lowB
 congr 2
def inF (at_ n base size : Wd64) : Bool := (decide (base ≤ at_) && decide (at_ - base ≤ size)) && decide (n ≤ size - (at_ - base))
def thereF (data heap at_ n : Wd64) : Bool := inF at_ n 268435456#64 data || inF at_ n 1073741824#64 heap
def sizeOk (z : Int) : Bool := decide (z = 1) || decide (z = 4) || decide (z = 8)
def psData (p : Prog) : Wd64 := wI ((p.data.length : Int) + p.zero)
end Go.Proofs.Ytlfklgganokgdaa

namespace Go.Proofs.Ytlfklgganokgdaa
open Go Go.RowKit

theorem zero_page : builtOf Try.prog 114 [] = some (List.replicate 4096 (u8 0)) := by kernel_rfl
def pgP (n : Wd64) (l : List Pg) : Option Addr := (pgI n l).map fun j => ⟨(l.getD j default).b, 0, none⟩
theorem lk_pg (n : Wd64) (l : List Pg) : (getK (wk n) (pgT l)).getD (.v (.pointer none)) = .v (.pointer (pgP n l)) := by
 rw [getK_pg, pgP]
 cases pgI n l <;> rfl
theorem pgP_none {n : Wd64} {l : List Pg} (h : (pgP n l).isNone = true) : pgI n l = none := by
 unfold pgP at h
 cases hq : pgI n l with
 | none => rfl
 | some j => rw [hq] at h; cases h
theorem pgP_ne {n : Wd64} {l : List Pg} (h : (pgP n l).isNone = false) : ∃ j, pgI n l = some j := by
 unfold pgP at h
 cases hq : pgI n l with
 | none => rw [hq] at h; cases h
 | some j => exact ⟨j, rfl⟩
theorem pgP_some {n : Wd64} {l : List Pg} {j : Nat} (h : pgI n l = some j) : pgP n l = some ⟨(l.getD j default).b, 0, none⟩ := by rw [pgP, h]; rfl
theorem new_b {l : List Pg} {p : Pg} : ((l ++ [p]).getD l.length default) = p := by
 rw [List.getD_eq_getElem?_getD, List.getElem?_append_right (Nat.le_refl _), Nat.sub_self]; rfl
theorem zeros_len : zeros4.length = 4096 := by unfold zeros4; exact List.length_replicate ..
theorem pgE_new (n : Wd64) (b : Nat) : pgE 114 [⟨n, b, zeros4⟩] = [Ent.box b 114 (List.replicate 4096 (u8 0))] := by
 unfold pgE zeros4
 simp only [List.map_cons, List.map_nil, List.map_replicate]
theorem mem_new {X : Ent} {pg : Nat} {l : List Pg} {n : Wd64} {b : Nat} (h : pgI n l = none) : (((X :: memE 114 pg l) ++ [Ent.box b 114 (List.replicate 4096 (u8 0))]).set 1 (Ent.map pg (putK (wk n) (.v (.pointer (some ⟨b, 0, none⟩))) (pgT l)))) = X :: memE 114 pg (l ++ [⟨n, b, zeros4⟩]) := by
 rw [putK_pg n b zeros4 l h]
 show X :: Ent.map pg (pgT (l ++ [⟨n, b, zeros4⟩])) :: (pgE 114 l ++ [Ent.box b 114 (List.replicate 4096 (u8 0))]) = X :: Ent.map pg (pgT (l ++ [⟨n, b, zeros4⟩])) :: pgE 114 (l ++ [⟨n, b, zeros4⟩])
 rw [pgE_app, pgE_new]
theorem set_take {l : List T} {p : Nat} {r : T} (h : p < l.length) : l.take p ++ [r] ++ l.drop (p + 1) = l.set p r := by
 rw [List.set_eq_take_append_cons_drop, if_pos h, List.append_assoc]; rfl
theorem mem_put {X : Ent} {pg : Nat} {l : List Pg} {j : Nat} {a : Wd64} {x : UInt8} (h : j < l.length) (hl : (l.getD j default).bs.length = 4096) : ((X :: memE 114 pg l).set (j + 2) (Ent.box (l.getD j default).b 114 (((l.getD j default).bs.map u8).take (0 + (a % 4096#64).toNat * 1) ++ cellsT (u8 x) ++ ((l.getD j default).bs.map u8).drop (0 + (a % 4096#64).toNat * 1 + 1)))) = X :: memE 114 pg (pgSet l j (a % 4096#64).toNat x) := by
 rw [Nat.zero_add, Nat.mul_one]
 show X :: Ent.map pg (pgT l) :: (pgE 114 l).set j _ = X :: Ent.map pg (pgT (pgSet l j _ x)) :: pgE 114 (pgSet l j _ x)
 rw [pgT_set h, ← pgE_set h, show cellsT (u8 x) = [u8 x] from rfl, set_take (by rw [List.length_map, hl]; exact lt4096 a)]
theorem byte_at {l : List Pg} {j : Nat} {a : Wd64} (h : pgI (a / 4096#64) l = some j) (hl : PgOk l) : ((l.getD j default).bs.map u8)[0 + (a % 4096#64).toNat * 1]? = some (u8 (getM l a)) := by
 have hj := (pgI_lt h).1
 rw [Nat.zero_add, Nat.mul_one, List.getElem?_map, List.getElem?_eq_getElem (by rw [hl j hj]; exact lt4096 a)]
 unfold getM
 rw [h]
 show some (u8 _) = some (u8 ((l.getD j default).bs.getD _ 0))
 rw [List.getD_eq_getElem?_getD (l := (l.getD j default).bs), List.getElem?_eq_getElem (by rw [hl j hj]; exact lt4096 a)]; rfl
theorem byte_none {l : List Pg} {a : Wd64} (h : pgI (a / 4096#64) l = none) : getM l a = 0 := by
 unfold getM; rw [h]
set_option maxHeartbeats 4000000 in
theorem put30 (s pg : Nat) (ps : PS) (cl : T) (l : List Pg) (hpg : ps.pages = mapT pg) (hl : PgOk l) (a : Wd64) (x : UInt8) :
    ACalls Try.prog 30 [.v (.pointer (some ⟨s, 0, none⟩)), zw a, u8 x] (Ent.box s 80 (psC ps cl) :: memE 114 pg l) (fun t S => t = .tup [] ∧ ∃ l', S = (Ent.box s 80 (psC ps cl) :: memE 114 pg l') ∧ PgOk l' ∧ getM l' = updM (getM l) a x) := by
 obtain ⟨prog, lab, heap, strict, w, pages, ent, st, ans, code, steps⟩ := ps
 obtain rfl : pages = mapT pg := hpg
 refine ACalls.intro Try.func30 rfl Try.ntmps30 nB rfl fun X w0 => ?_
 refine rs (ym ?_)
 refine Y1 (Yv.nilChk rfl eV) ?_
 refine yf fo_80_5 ?_
 refine yl ag_76 0 ?_
 refine ym ?_
 refine Y1 (Yv.quoW (b := 4096#64) rfl (E rfl rfl) (E rfl rfl) (by decide)) ?_
 refine Y1 (Yv.eqT (Yv.lookup1 (k := wk (a / 4096#64)) (i := 1) rfl mp_76 rfl eV eV rfl (good_pg l)) (lk_pg _ _)) ?_
 refine ya ?_
 refine AW.mid (α := List Pg × Nat) (fun y => [(0, true, pv s), (1, true, zw a), (2, true, u8 x), (6, true, .v (.pointer (some ⟨(y.1.getD y.2 default).b, 0, none⟩)))]) (fun y => (Ent.box s 80 (psC ⟨prog, lab, heap, strict, w, mapT pg, ent, st, ans, code, steps⟩ cl) :: memE 114 pg y.1)) (fun y => pgI (a / 4096#64) y.1 = some y.2 ∧ PgOk y.1 ∧ getM y.1 = getM l) ?_ ?_
 ·refine rs (ym ?_)
  refine Y1 (Yv.eqlNilP rfl pn_113 eV) (nl ?_)
  refine AW.cond rfl (fun h0t => ?_) (fun h0f => ?_)
  ·have hq := pgP_none h0t
   refine rs (Y1 (Yv.build (cs := List.replicate 4096 (u8 0)) rfl evp0 (fun _ => zero_page)) ?_)
   refine AWL.boxOp rfl rfl (B rfl) rfl (E rfl rfl) rfl (fun b17 => ?_)
   refine ya ?_
   refine AW.region ?_
   refine ym ?_
   refine Y1 (Yv.nilChk rfl eV) ?_
   refine yf fo_80_5 ?_
   refine yl ag_76 0 ?_
   refine ym ?_
   refine Y1 (Yv.quoW (b := 4096#64) rfl (E rfl rfl) (E rfl rfl) (by decide)) ?_
   refine ym ?_
   refine AWL.mapUpd (k := wk (a / 4096#64)) (i := 1) rfl rfl (.inl rfl) mp_76 rfl (E rfl rfl) (E rfl rfl) (E rfl rfl) rfl rfl (good_pg l) (nl ?_)
   refine ⟨(l ++ [⟨a / 4096#64, b17, zeros4⟩], l.length), ⟨new_I b17 hq, hl.app zeros_len, get_new b17 hq⟩, (su (su (su (Sub.cons rfl (by rw [new_b]) Sub.nil)))), mem_new hq⟩
  obtain ⟨j, hq⟩ := pgP_ne h0f
  refine AW.skip ?_
  refine ⟨(l, j), ⟨hq, hl, rfl⟩, (su (su (su (Sub.cons rfl (by rw [pgP_some hq]) Sub.nil)))), rfl⟩
 rintro ⟨l2, j⟩ ⟨h1, h2, h3⟩
 dsimp only at h1 h2 h3
 have hj := pgI_lt h1
 refine AW.region ?_
 refine ym ?_
 refine ym ?_
 refine Y1 (Yv.remW (b := 4096#64) rfl (E rfl rfl) (E rfl rfl) (by decide)) ?_
 refine ym ?_
 refine Y1 (Yv.nilChk rfl eV) ?_
 refine Y1 (Yv.indexArr (j := (a % 4096#64).toNat) rfl ar_114 eV eV (fun hg => ⟨rfl, lt4096 a⟩)) ?_
 refine AWL.storeBox (i := j + 2) rfl rfl rfl ag_5 (pgE_at (l := l2) hj.1) (E rfl rfl) (E rfl rfl) rfl rfl (by rw [List.length_map, h2 _ hj.1]; have := lt4096 a; omega) (nl ?_)
 refine retN .nil ?_
 exact ⟨rfl, _, mem_put hj.1 (h2 _ hj.1), h2.set _ _ _, (get_set h1 h2 x).trans (by rw [h3])⟩

set_option maxHeartbeats 2000000 in
theorem get65 (s pg : Nat) (ps : PS) (cl : T) (l : List Pg) (hpg : ps.pages = mapT pg) (hl : PgOk l) (a : Wd64) :
    ACalls Try.prog 65 [.v (.pointer (some ⟨s, 0, none⟩)), zw a] (Ent.box s 80 (psC ps cl) :: memE 114 pg l) (fun t S => t = u8 (getM l a) ∧ S = (Ent.box s 80 (psC ps cl) :: memE 114 pg l)) := by
 obtain ⟨prog, lab, heap, strict, w, pages, ent, st, ans, code, steps⟩ := ps
 obtain rfl : pages = mapT pg := hpg
 refine ACalls.intro Try.func65 rfl Try.ntmps65 nB rfl fun X w0 => ?_
 refine ra ?_
 refine AW.seq ?_
 refine rs (ym ?_)
 refine Y1 (Yv.nilChk rfl eV) ?_
 refine yf fo_80_5 ?_
 refine yl ag_76 0 ?_
 refine ym ?_
 refine Y1 (Yv.quoW (b := 4096#64) rfl (E rfl rfl) (E rfl rfl) (by decide)) ?_
 refine Y1 (Yv.eqT (Yv.lookup1 (k := wk (a / 4096#64)) (i := 1) rfl mp_76 rfl eV eV rfl (good_pg l)) (lk_pg _ _)) ?_
 refine ya ?_
 refine rs (ym ?_)
 refine Y1 (Yv.neqNilP rfl pn_113 eV) (nl ?_)
 refine AW.cond rfl (fun h0t => ?_) (fun h0f => ?_)
 ·obtain ⟨j, hq⟩ := pgP_ne (n := a / 4096#64) (l := l) (by simpa using h0t)
  have hj := pgI_lt hq
  rw [pgP_some hq]
  refine rs (ym ?_)
  refine ym ?_
  refine Y1 (Yv.remW (b := 4096#64) rfl (E rfl rfl) (E rfl rfl) (by decide)) ?_
  refine Y1 (Yv.nilChk rfl eV) ?_
  refine Y1 (Yv.indexArr (j := (a % 4096#64).toNat) rfl ar_114 eV eV (fun hg => ⟨rfl, lt4096 a⟩)) ?_
  refine Y1 (Yv.loadBox (i := j + 2) rfl ag_5 (pgE_at (l := l) hj.1) eV (byte_at hq hl)) ?_
  refine ya ?_
  refine AW.ret (retI (.tmp rfl .nil) ?_)
  exact ⟨rfl, rfl⟩
 have hq := pgP_none (n := a / 4096#64) (l := l) (by simpa using h0f)
 refine AW.skip ?_
 refine ra ?_
 refine AW.ret (retI (.tmp rfl .nil) ?_)
 rw [byte_none hq]
 exact ⟨rfl, rfl⟩

set_option maxHeartbeats 2000000 in
theorem in74 (b4 b5 : Nat) (a n base size : Wd64) :
    ACalls Try.prog 74 [zw base, zw size, .v (.pointer (some ⟨b4, 0, none⟩)), .v (.pointer (some ⟨b5, 0, none⟩))] [Ent.box b4 39 [zw a], Ent.box b5 39 [zw n]] (fun t S => t = bv (inF a n base size) ∧ S = [Ent.box b4 39 [zw a], Ent.box b5 39 [zw n]]) := by
 refine ACalls.intro Try.func74 rfl Try.ntmps74 nB rfl fun X w0 => ?_
 refine ra ?_
 refine rs (yl ag_39 0 ?_)
 refine ym ?_
 refine Y1 (Yv.geqW rfl eV eV) ?_
 refine ym ?_
 refine gT (Yv.loadBox rfl ag_39 (i := 0) rfl eV rfl) ?_
 refine gT (Yv.move rfl eV) ?_
 refine gT (Yv.subW rfl (Eg rfl rfl id) (Eg rfl rfl id)) ?_
 refine gT (Yv.move rfl eV) ?_
 refine gT (Yv.leqW rfl (Eg rfl rfl id) (Eg rfl rfl id)) ?_
 refine Y1 (Yv.pickAnd rfl eV (Eg rfl rfl id)) ?_
 refine ym ?_
 refine gT (Yv.loadBox rfl ag_39 (i := 1) rfl eV rfl) ?_
 refine gT (Yv.move rfl eV) ?_
 refine gT (Yv.loadBox rfl ag_39 (i := 0) rfl eV rfl) ?_
 refine gT (Yv.move rfl eV) ?_
 refine gT (Yv.subW rfl (Eg rfl rfl id) (Eg rfl rfl id)) ?_
 refine gT (Yv.subW rfl (Eg rfl rfl id) (Eg rfl rfl id)) ?_
 refine gT (Yv.leqW rfl (Eg rfl rfl id) (Eg rfl rfl id)) ?_
 refine Y1 (Yv.pickAnd rfl eV (Eg rfl rfl id)) ?_
 refine ya ?_
 refine AW.ret (retI (.tmp rfl .nil) ?_)
 refine ⟨?_, rfl⟩
 unfold inF
 cases decide (base ≤ a) <;> cases decide (a - base ≤ size) <;> cases decide (n ≤ size - (a - base)) <;> rfl

set_option maxHeartbeats 4000000 in
theorem there64_ (s : Nat) (ps : PS) (cl : T) (a n : Wd64) (hd : ps.prog.data.length ≤ 1048576) (hz0 : 0 ≤ ps.prog.zero) (hz1 : ps.prog.zero ≤ 268435456) :
    ACalls Try.prog 64 [.v (.pointer (some ⟨s, 0, none⟩)), zw a, zw n] [Ent.box s 80 (psC ps cl)] (fun t S => t = bv (thereF (psData ps.prog) ps.heap a n) ∧ ([Ent.box s 80 (psC ps cl)] : St).Sublist S) := by
 refine ACalls.intro Try.func64 rfl Try.ntmps64 nB rfl fun X w0 => ?_
 refine rs ?_
 refine AWL.boxOp rfl rfl (B rfl) rfl (E rfl rfl) rfl (fun b4 => ?_)
 refine AWL.boxOp rfl rfl (B rfl) rfl (E rfl rfl) rfl (fun b5 => ?_)
 refine ya ?_
 refine AW.perm (S' := [Ent.box b4 39 [zw a], Ent.box b5 39 [zw n], Ent.box s 80 (psC ps cl)]) (List.perm_append_comm (l₁ := [_, _]) (l₂ := [_])) ?_
 refine AW.rseqQ rfl (by kernel_rfl) ?_
 refine qm ?_
 refine Q1 (Yv.nilChk rfl eV) ?_
 refine qf fo_80_0 ?_
 refine qf fo_25_1 ?_
 refine ql ag_23 2 ?_
 refine Q1 (Yv.lenSl rfl so_23 (B rfl) eV len_data) ?_
 refine qm ?_
 refine Q1 (Yv.nilChk rfl eV) ?_
 refine qf fo_80_0 ?_
 refine qf fo_25_2 ?_
 refine ql ag_3 2 ?_
 refine Q1 (Yv.addN_i64 rfl eV eV (fun hg => by omega)) ?_
 refine Q1 (Yv.convW rfl Try.underlying3 kd_39 eV) ?_
 refine Q1 (Yv.assign rfl eV) ?_
 refine AWQ.nil ?_
 refine rs (Y1 (Yv.makeFunc rfl evs0 rfl (evsC eV (evsC eV evs0)) rfl) ?_)
 refine ya ?_
 refine rs (ym ?_)
 refine ym ?_
 refine AWL.callK rfl rfl (B rfl) rfl ce_74 (E rfl rfl) (evsC (E rfl rfl) (evsC (E rfl rfl) evs0)) (S1 := [Ent.box b4 39 [zw a], Ent.box b5 39 [zw n]]) (S2 := _) rfl (in74 b4 b5 a n 268435456#64 (psData ps.prog)) (fun t S h => h) ?_
 refine ym ?_
 refine gF (Yv.move rfl eV) ?_
 refine gF (Yv.move rfl eV) ?_
 refine gF (Yv.nilChk rfl (Eg rfl rfl id)) ?_
 refine gF (Yv.fieldBox rfl fo_80_2 (Eg rfl rfl id)) ?_
 refine gF (Yv.loadBox rfl ag_39 (i := 2) rfl (Eg rfl rfl id) rfl) ?_
 refine AWL.callKgF rfl rfl rfl rfl (B rfl) rfl ce_74 (Eg rfl rfl id) (evsC (E rfl rfl) (evsC (Eg rfl rfl id) evs0)) (S1 := [Ent.box b4 39 [zw a], Ent.box b5 39 [zw n]]) (S2 := _) rfl (fun hg => in74 b4 b5 a n 1073741824#64 ps.heap) (fun t S h => h) ?_
 refine Y1 (Yv.pickOr (t := .const (.bool true)) rfl eV (Eg rfl rfl id)) ?_
 refine ya ?_
 refine AW.ret (retI (.tmp rfl .nil) ?_)
 exact ⟨by unfold thereF; cases inF a n 268435456#64 (psData ps.prog) <;> rfl, (by simp)⟩

theorem there64 (s : Nat) (ps : PS) (cl : T) (a n : Wd64) (hd : ps.prog.data.length ≤ 1048576) (hz0 : 0 ≤ ps.prog.zero) (hz1 : ps.prog.zero ≤ 268435456) : ACalls Try.prog 64 [.v (.pointer (some ⟨s, 0, none⟩)), zw a, zw n] [Ent.box s 80 (psC ps cl)] (fun t S => t = bv (thereF (psData ps.prog) ps.heap a n) ∧ S = [Ent.box s 80 (psC ps cl)]) :=
 (there64_ s ps cl a n hd hz0 hz1).less fun t S' ⟨h1, h2⟩ => ⟨_, h2, h1, rfl⟩
end Go.Proofs.Ytlfklgganokgdaa

namespace Go.Proofs.Ytlfklgganokgdaa
open Go Go.RowKit

theorem size_in {z : Int} (h : sizeOk z = true) : z = 1 ∨ z = 4 ∨ z = 8 := by
 unfold sizeOk at h
 simp only [Bool.or_eq_true, decide_eq_true_eq] at h
 omega
set_option maxHeartbeats 4000000 in
theorem Load54 (s pg : Nat) (ps : PS) (cl : T) (l : List Pg) (hpg : ps.pages = mapT pg) (hl : PgOk l) (hd : ps.prog.data.length ≤ 1048576) (hz0 : 0 ≤ ps.prog.zero) (hz1 : ps.prog.zero ≤ 268435456) (a : Wd64) (z : Int) :
    ACalls Try.prog 54 [.v (.pointer (some ⟨s, 0, none⟩)), zw a, zi z] (Ent.box s 80 (psC ps cl) :: memE 114 pg l) (fun t S => t = .tup [zw (if (sizeOk z && thereF (psData ps.prog) ps.heap a (wI z)) = true then leF (getM l) a z.toNat else 0#64), bv (sizeOk z && thereF (psData ps.prog) ps.heap a (wI z))] ∧ S = (Ent.box s 80 (psC ps cl) :: memE 114 pg l)) := by
 refine ACalls.intro Try.func54 rfl Try.ntmps54 nB rfl fun X w0 => ?_
 refine rs (Y1 (Yv.assign rfl eV) ?_)
 refine ya ?_
 refine AW.seq ?_
 refine rs (ym ?_)
 refine Y1 (Yv.eqlNilP rfl pn_36 eV) ?_
 refine ym ?_
 refine gF (Yv.move rfl eV) ?_
 refine gF (Yv.neq rfl (Eg rfl rfl id) eV) ?_
 refine gF (Yv.move rfl (Eg rfl rfl id)) ?_
 refine gT (Yv.move rfl eV) ?_
 refine gT (Yv.neq rfl (Eg rfl rfl id) eV) ?_
 refine gF (Yv.pickAnd rfl (Eg rfl rfl id) (Eg rfl rfl id)) ?_
 refine gF (Yv.move rfl (Eg rfl rfl id)) ?_
 refine gT (Yv.move rfl eV) ?_
 refine gT (Yv.neq rfl (Eg rfl rfl id) eV) ?_
 refine gF (Yv.pickAnd rfl (Eg rfl rfl id) (Eg rfl rfl id)) ?_
 refine Y1 (Yv.pickOr (t := .const (.bool true)) rfl eV (Eg rfl rfl id)) ?_
 refine ym ?_
 refine gF (Yv.move rfl eV) ?_
 refine gF (Yv.move rfl eV) ?_
 refine gF (Yv.move rfl eV) ?_
 refine gF (Yv.convW rfl Try.underlying3 kd_39 (Eg rfl rfl id)) ?_
 refine AWL.callKgF rfl rfl rfl rfl (B rfl) rfl ce_64 (E rfl rfl) (evsC (Eg rfl rfl id) (evsC (Eg rfl rfl id) (evsC (Eg rfl rfl id) evs0))) (S1 := [Ent.box s 80 (psC ps cl)]) (S2 := _) rfl (fun hg => there64 s ps cl a (wI z) hd hz0 hz1) (fun t S h => h) ?_
 refine gF (Yv.not rfl (Eg rfl rfl id)) ?_
 refine Y1 (Yv.pickOr (t := .const (.bool true)) rfl eV (Eg rfl rfl id)) (nl ?_)
 refine AW.cond rfl (fun h0t => ?_) (fun h0f => ?_)
 ·have hz : (sizeOk z && thereF (psData ps.prog) ps.heap a (wI z)) = false := by
   unfold sizeOk
   by_cases e1 : z = 1 <;> by_cases e4 : z = 4 <;> by_cases e8 : z = 8 <;> simp_all
  rw [hz]
  refine rs (Y1 (Yv.assign rfl eV) ?_)
  refine ya ?_
  refine AW.ret (retI (.tmp rfl (.tmp rfl .nil)) ?_)
  exact ⟨rfl, rfl⟩
 have hz : sizeOk z = true ∧ thereF (psData ps.prog) ps.heap a (wI z) = true := by
  unfold sizeOk
  by_cases e1 : z = 1 <;> by_cases e4 : z = 4 <;> by_cases e8 : z = 8 <;> simp_all
 have hzk := size_in hz.1
 rw [hz.1, hz.2]
 refine AW.skip ?_
 refine ra ?_
 refine AW.seq ?_
 refine rs (ym ?_)
 refine ym (nl ?_)
 refine AW.block ?_
 refine AW.loop (fun (k : Nat) => [(0, true, pv s), (1, true, zw a), (2, true, zi z), (8, true, zw (leF (getM l) a k)), (32, true, zi z), (33, true, .v (.int .i64 (k : Int)))]) (fun (k : Nat) => (Ent.box s 80 (psC ps cl) :: memE 114 pg l)) (fun (k : Nat) => (k : Int) ≤ z) (fun (k : Nat) => z.toNat - k) 0 ?_ ?_ ?_ ?_
 ·exact (by omega : ((0 : Nat) : Int) ≤ z)
 ·exact (su (su (su (su (su (su sn))))))
 ·rfl
 intro k hinv
 refine rs (Y1 (Yv.lss rfl eV eV) (nl ?_))
 refine AW.seq ?_
 refine AW.cond rfl (fun h1t => ?_) (fun h1f => ?_)
 ·try replace h1t := odt h1t
  refine AW.skip ?_
  refine AW.seq ?_
  refine AW.block ?_
  refine rs (ym ?_)
  refine ya ?_
  refine AW.region ?_
  refine ym ?_
  refine ym ?_
  refine ym ?_
  refine ym ?_
  refine Y1 (Yv.convW rfl Try.underlying3 kd_39 eV) ?_
  refine Y1 (Yv.addW rfl eV eV) ?_
  refine AWL.callK rfl rfl (B rfl) rfl ce_65 (E rfl rfl) (evsC (E rfl rfl) (evsC (E rfl rfl) evs0)) (S1 := (Ent.box s 80 (psC ps cl) :: memE 114 pg l)) (S2 := []) (List.append_nil _).symm (get65 s pg ps cl l hpg hl (a + wI (k : Int))) (fun t S h => h) ?_
  refine Y1 (Yv.convW rfl Try.underlying5 kd_39 eV) ?_
  refine ym ?_
  refine Y1 (Yv.mulN_i64 rfl eV eV (fun hg => by omega)) ?_
  refine Y1 (Yv.shlW (n := 8 * k) (a := bw (getM l (a + wI (k : Int)))) rfl eV eV (by omega)) ?_
  refine Y1 (Yv.orW rfl eV eV) ?_
  refine ya ?_
  refine AW.region ?_
  refine Y1 (Yv.addN_i64 rfl eV eV (fun hg => by omega)) ?_
  refine ym (nl ?_)
  refine ⟨k + 1, by omega, by omega, (su (su (su (su (su (Sub.cons rfl (by simp) Sub.nil)))))), rfl⟩
 try replace h1f := odf h1f
 obtain rfl : z = (k : Int) := by omega
 refine AW.exit ?_
 refine rs (ym ?_)
 refine Y1 (Yv.assign rfl eV) ?_
 refine ya ?_
 refine AW.ret (retI (.tmp rfl (.tmp rfl .nil)) ?_)
 exact ⟨rfl, rfl⟩

set_option maxHeartbeats 4000000 in
theorem Store53 (s pg : Nat) (ps : PS) (cl : T) (l : List Pg) (hpg : ps.pages = mapT pg) (hl : PgOk l) (hd : ps.prog.data.length ≤ 1048576) (hz0 : 0 ≤ ps.prog.zero) (hz1 : ps.prog.zero ≤ 268435456) (a : Wd64) (z : Int) (x : Wd64) :
    ACalls Try.prog 53 [.v (.pointer (some ⟨s, 0, none⟩)), zw a, zi z, zw x] (Ent.box s 80 (psC ps cl) :: memE 114 pg l) (fun t S => t = bv (sizeOk z && thereF (psData ps.prog) ps.heap a (wI z)) ∧ ∃ l', S = (Ent.box s 80 (psC ps cl) :: memE 114 pg l') ∧ PgOk l' ∧ getM l' = if (sizeOk z && thereF (psData ps.prog) ps.heap a (wI z)) = true then putsF (getM l) a x z.toNat else getM l) := by
 refine ACalls.intro Try.func53 rfl Try.ntmps53 nB rfl fun X w0 => ?_
 refine ra ?_
 refine AW.seq ?_
 refine rs (ym ?_)
 refine Y1 (Yv.eqlNilP rfl pn_36 eV) ?_
 refine ym ?_
 refine gF (Yv.move rfl eV) ?_
 refine gF (Yv.neq rfl (Eg rfl rfl id) eV) ?_
 refine gF (Yv.move rfl (Eg rfl rfl id)) ?_
 refine gT (Yv.move rfl eV) ?_
 refine gT (Yv.neq rfl (Eg rfl rfl id) eV) ?_
 refine gF (Yv.pickAnd rfl (Eg rfl rfl id) (Eg rfl rfl id)) ?_
 refine gF (Yv.move rfl (Eg rfl rfl id)) ?_
 refine gT (Yv.move rfl eV) ?_
 refine gT (Yv.neq rfl (Eg rfl rfl id) eV) ?_
 refine gF (Yv.pickAnd rfl (Eg rfl rfl id) (Eg rfl rfl id)) ?_
 refine Y1 (Yv.pickOr (t := .const (.bool true)) rfl eV (Eg rfl rfl id)) ?_
 refine ym ?_
 refine gF (Yv.move rfl eV) ?_
 refine gF (Yv.move rfl eV) ?_
 refine gF (Yv.move rfl eV) ?_
 refine gF (Yv.convW rfl Try.underlying3 kd_39 (Eg rfl rfl id)) ?_
 refine AWL.callKgF rfl rfl rfl rfl (B rfl) rfl ce_64 (E rfl rfl) (evsC (Eg rfl rfl id) (evsC (Eg rfl rfl id) (evsC (Eg rfl rfl id) evs0))) (S1 := [Ent.box s 80 (psC ps cl)]) (S2 := _) rfl (fun hg => there64 s ps cl a (wI z) hd hz0 hz1) (fun t S h => h) ?_
 refine gF (Yv.not rfl (Eg rfl rfl id)) ?_
 refine Y1 (Yv.pickOr (t := .const (.bool true)) rfl eV (Eg rfl rfl id)) (nl ?_)
 refine AW.cond rfl (fun h0t => ?_) (fun h0f => ?_)
 ·have hz : (sizeOk z && thereF (psData ps.prog) ps.heap a (wI z)) = false := by
   unfold sizeOk
   by_cases e1 : z = 1 <;> by_cases e4 : z = 4 <;> by_cases e8 : z = 8 <;> simp_all
  rw [hz]
  refine ra ?_
  refine AW.ret (retI (.tmp rfl .nil) ?_)
  exact ⟨rfl, l, rfl, hl, rfl⟩
 have hz : sizeOk z = true ∧ thereF (psData ps.prog) ps.heap a (wI z) = true := by
  unfold sizeOk
  by_cases e1 : z = 1 <;> by_cases e4 : z = 4 <;> by_cases e8 : z = 8 <;> simp_all
 have hzk := size_in hz.1
 rw [hz.1, hz.2]
 refine AW.skip ?_
 refine AW.seq ?_
 refine rs (ym ?_)
 refine ym (nl ?_)
 refine AW.block ?_
 refine AW.loop2 (fun (k : Nat) (l2 : List Pg) => [(0, true, pv s), (1, true, zw a), (2, true, zi z), (3, true, zw x), (32, true, zi z), (33, true, .v (.int .i64 (k : Int)))]) (fun (k : Nat) (l2 : List Pg) => (Ent.box s 80 (psC ps cl) :: memE 114 pg l2)) (fun (k : Nat) (l2 : List Pg) => (k : Int) ≤ z ∧ PgOk l2 ∧ getM l2 = putsF (getM l) a x k) (fun (k : Nat) (l2 : List Pg) => z.toNat - k) 0 l ?_ ?_ ?_ ?_
 ·exact ⟨(by show ((0 : Nat) : Int) ≤ z; omega), hl, rfl⟩
 ·exact (su (su (su (su (su (su sn))))))
 ·rfl
 intro k l2 ⟨hk0, hl2, hg2⟩
 refine rs (Y1 (Yv.lss rfl eV eV) (nl ?_))
 refine AW.seq ?_
 refine AW.cond rfl (fun h1t => ?_) (fun h1f => ?_)
 ·try replace h1t := odt h1t
  refine AW.skip ?_
  refine AW.seq ?_
  refine AW.block ?_
  refine rs (ym ?_)
  refine ya ?_
  refine AW.region ?_
  refine AWL.perm (S' := (Ent.box s 80 (psC ps cl) :: memE 114 pg l2) ++ []) (by rw [List.append_nil]) ?_
  refine ym ?_
  refine ym ?_
  refine ym ?_
  refine Y1 (Yv.convW rfl Try.underlying3 kd_39 eV) ?_
  refine Y1 (Yv.addW rfl eV eV) ?_
  refine ym ?_
  refine ym ?_
  refine Y1 (Yv.mulN_i64 rfl eV eV (fun hg => by omega)) ?_
  refine Y1 (Yv.shrW (n := 8 * k) rfl eV eV (by omega)) ?_
  refine Y1 (Yv.eqT (Yv.conv rfl Try.underlying39 kd_5 eV) (low_u8 _)) ?_
  refine C1 rfl ce_30 (E rfl rfl) (evsC (E rfl rfl) (evsC (E rfl rfl) (evsC (E rfl rfl) evs0))) (S1 := (Ent.box s 80 (psC ps cl) :: memE 114 pg l2)) (S2 := []) rfl (put30 s pg ps cl l2 hpg hl2 (a + wI (k : Int)) (lowB (x >>> (8 * k)))) ?_
  rintro t46 S46 ⟨rfl, l3, rfl, hl3, hg3⟩
  refine nl ?_
  rw [List.append_nil]
  refine AW.region ?_
  refine Y1 (Yv.addN_i64 rfl eV eV (fun hg => by omega)) ?_
  refine ym (nl ?_)
  refine ⟨k + 1, l3, ⟨by omega, hl3, by rw [hg3, hg2]; rfl⟩, by omega, (su (su (su (su (su (Sub.cons rfl (by simp) Sub.nil)))))), rfl⟩
 try replace h1f := odf h1f
 obtain rfl : z = (k : Int) := by omega
 refine AW.exit ?_
 refine ra ?_
 refine AW.ret (retI (.tmp rfl .nil) ?_)
 exact ⟨rfl, l2, rfl, hl2, hg2⟩

end Go.Proofs.Ytlfklgganokgdaa

namespace Go.Proofs.Ytlfklgganokgdaa.V
open Go
theorem ag_3 : aggSize Try.prog 3 = some (false, 1) := by kernel_rfl
theorem ag_31 : aggSize Try.prog 31 = some (false, 1) := by kernel_rfl
theorem ag_44 : aggSize Try.prog 44 = some (false, 1) := by kernel_rfl
theorem ag_64 : aggSize Try.prog 64 = some (false, 1) := by kernel_rfl
theorem ag_67 : aggSize Try.prog 67 = some (true, 3) := by kernel_rfl
theorem ag_72 : aggSize Try.prog 72 = some (true, 2) := by kernel_rfl
theorem ag_9 : aggSize Try.prog 9 = some (false, 1) := by kernel_rfl
theorem ag_90 : aggSize Try.prog 90 = some (true, 3) := by kernel_rfl
theorem ar_68 : arrOf Try.prog 68 = some (19, 3) := by kernel_rfl
theorem by_23 : isBytes Try.prog 23 = true := by kernel_rfl
theorem ce_27 : calleeB Try.prog 27 = true := by kernel_rfl
theorem ce_28 : calleeB Try.prog 28 = true := by kernel_rfl
theorem ce_33 : calleeB Try.prog 33 = true := by kernel_rfl
theorem ce_43 : calleeB Try.prog 43 = true := by kernel_rfl
theorem ce_44 : calleeB Try.prog 44 = true := by kernel_rfl
theorem ce_62 : calleeB Try.prog 62 = true := by kernel_rfl
theorem ce_78 : calleeB Try.prog 78 = true := by kernel_rfl
theorem ce_81 : calleeB Try.prog 81 = true := by kernel_rfl
theorem el_23 : elemOf Try.prog 23 = some (5, 1, 1, [.int .u8 0]) := by kernel_rfl
theorem el_44 : elemOf Try.prog 44 = some (90, 3, 40, [.int .i64 0, .string ⟨#[]⟩, .string ⟨#[]⟩]) := by kernel_rfl
theorem fl_90 : flatOf Try.prog 90 = some [(0, .i), (1, .s), (2, .s)] := by kernel_rfl
theorem fo_33_0 : fieldOff Try.prog 33 0 = some 0 := by kernel_rfl
theorem fo_33_1 : fieldOff Try.prog 33 1 = some 1 := by kernel_rfl
theorem fo_67_0 : fieldOff Try.prog 67 0 = some 0 := by kernel_rfl
theorem fo_67_1 : fieldOff Try.prog 67 1 = some 1 := by kernel_rfl
theorem fo_67_2 : fieldOff Try.prog 67 2 = some 2 := by kernel_rfl
theorem fo_70_0 : fieldOff Try.prog 70 0 = some 0 := by kernel_rfl
theorem fo_70_1 : fieldOff Try.prog 70 1 = some 1 := by kernel_rfl
theorem fo_70_2 : fieldOff Try.prog 70 2 = some 2 := by kernel_rfl
theorem fo_70_3 : fieldOff Try.prog 70 3 = some 59 := by kernel_rfl
theorem fo_72_0 : fieldOff Try.prog 72 0 = some 0 := by kernel_rfl
theorem fo_72_1 : fieldOff Try.prog 72 1 = some 1 := by kernel_rfl
theorem fo_90_0 : fieldOff Try.prog 90 0 = some 0 := by kernel_rfl
theorem fo_90_1 : fieldOff Try.prog 90 1 = some 1 := by kernel_rfl
theorem fo_90_2 : fieldOff Try.prog 90 2 = some 2 := by kernel_rfl
theorem kd_3 : kindOf Try.prog 3 = some .i64 := by kernel_rfl
theorem kd_39 : kindOf Try.prog 39 = some .u64 := by kernel_rfl
theorem kd_5 : kindOf Try.prog 5 = some .u8 := by kernel_rfl
theorem mp_64 : mapOf Try.prog 64 = some (.string, 9, 23, .slice none 0 0) := by kernel_rfl
theorem pn_34 : ptrOf Try.prog 34 = true := by kernel_rfl
theorem pt_126 : ptrTo Try.prog 126 = some 5 := by kernel_rfl
theorem sh_67 : structShape Try.prog 67 = some ([.int .i64 0, .string ⟨#[]⟩, .int .i64 0], [(0, 1), (1, 1), (2, 1)]) := by kernel_rfl
theorem sh_70 : structShape Try.prog 70 = some ([.map none, .string ⟨#[]⟩, .int .i64 0, .string ⟨#[]⟩, .int .i64 0, .int .i64 0, .string ⟨#[]⟩, .int .i64 0, .int .i64 0, .string ⟨#[]⟩, .int .i64 0, .int .i64 0, .string ⟨#[]⟩, .int .i64 0, .int .i64 0, .string ⟨#[]⟩, .int .i64 0, .int .i64 0, .string ⟨#[]⟩, .int .i64 0, .int .i64 0, .string ⟨#[]⟩, .int .i64 0, .int .i64 0, .string ⟨#[]⟩, .int .i64 0, .int .i64 0, .string ⟨#[]⟩, .int .i64 0, .int .i64 0, .string ⟨#[]⟩, .int .i64 0, .int .i64 0, .string ⟨#[]⟩, .int .i64 0, .int .i64 0, .string ⟨#[]⟩, .int .i64 0, .int .i64 0, .string ⟨#[]⟩, .int .i64 0, .int .i64 0, .string ⟨#[]⟩, .int .i64 0, .int .i64 0, .string ⟨#[]⟩, .int .i64 0, .int .i64 0, .string ⟨#[]⟩, .int .i64 0, .int .i64 0, .string ⟨#[]⟩, .int .i64 0, .int .i64 0, .string ⟨#[]⟩, .int .i64 0, .int .i64 0, .string ⟨#[]⟩, .int .i64 0, .slice none 0 0], [(0, 1), (1, 1), (2, 57), (59, 1)]) := by kernel_rfl
theorem sh_90 : structShape Try.prog 90 = some ([.int .i64 0, .string ⟨#[]⟩, .string ⟨#[]⟩], [(0, 1), (1, 1), (2, 1)]) := by kernel_rfl
theorem so_23 : sliceOf Try.prog 23 = some 5 := by kernel_rfl
theorem so_31 : sliceOf Try.prog 31 = some 72 := by kernel_rfl
theorem so_44 : sliceOf Try.prog 44 = some 90 := by kernel_rfl
theorem ss_23 : sliceSz Try.prog 23 = some (5, 1) := by kernel_rfl
theorem ss_31 : sliceSz Try.prog 31 = some (72, 2) := by kernel_rfl
theorem ss_44 : sliceSz Try.prog 44 = some (90, 3) := by kernel_rfl
theorem st_9 : isStr Try.prog 9 = true := by kernel_rfl
theorem zc_72 : zeroCellsOf Try.prog 72 = some [.string ⟨#[]⟩, .string ⟨#[]⟩] := by kernel_rfl
end Go.Proofs.Ytlfklgganokgdaa.V

namespace Go.Proofs.Ytlfklgganokgdaa.V
open Go Go.RowKit
structure Desc where
 kind : Int
 name : List UInt8
 place : Nat
 deriving Inhabited, DecidableEq
structure Evt where
 kind : Int
 name : List UInt8
 text : List UInt8
 deriving Inhabited, DecidableEq
structure FileR where
 name : List UInt8
 bytes : List UInt8
 A : Option Addr
 c : Nat
 deriving Inhabited
structure WS where
 files : List FileR
 stdin : List UInt8
 opn : List Desc
 trace : List Evt
 tA : Option Addr
 tc : Nat
 deriving Inhabited
def descCells (d : Desc) : List T := [.v (.int .i64 d.kind), sv d.name, .v (.int .i64 (d.place : Int))]
def evCells (e : Evt) : List T := [.v (.int .i64 e.kind), sv e.name, sv e.text]
def wCells (m : Nat) (s : List UInt8) (o : List Desc) (A : Option Addr) (n c : Nat) : List T := [.v (.map (some m)), sv s] ++ o.flatMap descCells ++ [.v (.slice A n c)]
def fileKey (f : FileR) : Key × T := (.s f.name, .v (.slice f.A f.bytes.length f.c))
def fileRow (f : FileR) : Ent := .row f.A f.bytes.length f.c 5 1 (f.bytes.map u8)
def WSt (b m : Nat) (ws : WS) : St := .box b 70 (wCells m ws.stdin ws.opn ws.tA ws.trace.length ws.tc) :: .map m (ws.files.map fileKey) :: .row ws.tA ws.trace.length ws.tc 90 3 (ws.trace.flatMap evCells) :: ws.files.map fileRow
def wp (b : Nat) : T := .v (.pointer (some ⟨b, 0, none⟩))

theorem len_flat {α : Type} {f : α → List T} {k : Nat} (hk : ∀ a, (f a).length = k) : ∀ (l : List α), (l.flatMap f).length = l.length * k
 | [] => by simp
 | a :: r => by rw [List.flatMap_cons, List.length_append, hk, len_flat hk r, List.length_cons, Nat.add_mul]; omega
theorem drop_flat {α : Type} {f : α → List T} {k : Nat} (hk : ∀ a, (f a).length = k) : ∀ (l : List α) (j : Nat), (l.flatMap f).drop (j * k) = (l.drop j).flatMap f
 | [], j => by simp
 | a :: r, 0 => by simp
 | a :: r, j + 1 => by
  rw [List.flatMap_cons, Nat.add_mul, Nat.one_mul, Nat.add_comm, List.drop_append, List.drop_of_length_le (by rw [hk]; omega), hk, List.nil_append, Nat.add_sub_cancel_left, drop_flat hk r j]
  rfl
theorem getD_eq' {α : Type} [Inhabited α] {l : List α} {j : Nat} (h : j < l.length) : l.getD j default = l[j] := by simp [h]
theorem flat_at {α : Type} [Inhabited α] {f : α → List T} {k : Nat} (hk : ∀ a, (f a).length = k) {l : List α} {j : Nat} (h : j < l.length) (i : Nat) (hi : i < k) : (l.flatMap f)[j * k + i]? = (f (l.getD j default))[i]? := by
 rw [← List.getElem?_drop, drop_flat hk, List.drop_eq_getElem_cons h, List.flatMap_cons, getD_eq' h, List.getElem?_append_left (by rw [hk]; exact hi)]
theorem mid_set {X F Y new : List T} {p i n : Nat} (hX : X.length = p) (hF : i + n ≤ F.length) : (X ++ (F ++ Y)).take (p + i) ++ new ++ (X ++ (F ++ Y)).drop (p + i + n) = X ++ ((F.take i ++ new ++ F.drop (i + n)) ++ Y) := by
 subst hX
 rw [List.take_append, List.drop_append, List.take_of_length_le (l := X) (by omega), List.drop_of_length_le (l := X) (by omega), Nat.add_sub_cancel_left, show X.length + i + n - X.length = i + n by omega, List.nil_append]
 rw [List.take_append_of_le_length (by omega), List.drop_append_of_le_length hF]
 simp only [List.append_assoc]
theorem flat_set {α : Type} [Inhabited α] {f : α → List T} {k : Nat} (hk : ∀ a, (f a).length = k) {l : List α} {j : Nat} (h : j < l.length) (i n : Nat) (new : List T) (a' : α) (hin : i + n ≤ k) (he : f a' = (f (l.getD j default)).take i ++ new ++ (f (l.getD j default)).drop (i + n)) :
    (l.flatMap f).take (j * k + i) ++ new ++ (l.flatMap f).drop (j * k + i + n) = (l.set j a').flatMap f := by
 have e0 : l = l.take j ++ l[j] :: l.drop (j + 1) := by rw [← List.drop_eq_getElem_cons h, List.take_append_drop]
 have e1 : l.set j a' = l.take j ++ a' :: l.drop (j + 1) := by rw [List.set_eq_take_append_cons_drop, if_pos h]
 have hL : ((l.take j).flatMap f).length = j * k := by rw [len_flat hk, List.length_take, Nat.min_eq_left (by omega)]
 have e2 : l.flatMap f = (l.take j).flatMap f ++ (f l[j] ++ (l.drop (j + 1)).flatMap f) := by
  conv => lhs; rw [e0]
  rw [List.flatMap_append, List.flatMap_cons]
 rw [e1, List.flatMap_append, List.flatMap_cons, he, e2, getD_eq' h]
 exact mid_set hL (by rw [hk]; exact hin)
theorem dk (d : Desc) : (descCells d).length = 3 := rfl
theorem ek (e : Evt) : (evCells e).length = 3 := rfl
theorem len_desc {o : List Desc} : (o.flatMap descCells).length = o.length * 3 := len_flat dk o
theorem len_ev {l : List Evt} : (l.flatMap evCells).length = l.length * 3 := len_flat ek l
theorem wCells_len {m : Nat} {s : List UInt8} {o : List Desc} {A : Option Addr} {n c : Nat} : (wCells m s o A n c).length = o.length * 3 + 3 := by
 simp only [wCells, List.length_append, len_desc, List.length_cons, List.length_nil]; omega
theorem desc_at {m : Nat} {s : List UInt8} {o : List Desc} {A : Option Addr} {n c j : Nat} (h : j < o.length) (i : Nat) (hi : i < 3) : (wCells m s o A n c)[2 + j * 3 + i]? = (descCells (o.getD j default))[i]? := by
 unfold wCells
 rw [List.append_assoc, List.getElem?_append_right (by simp; omega)]
 have e : 2 + j * 3 + i - [T.v (.map (some m)), sv s].length = j * 3 + i := by simp; omega
 rw [e, List.getElem?_append_left (by rw [len_desc]; omega)]
 exact flat_at dk h i hi
theorem kind_at {m : Nat} {s : List UInt8} {o : List Desc} {A : Option Addr} {n c j : Nat} (h : j < o.length) : (wCells m s o A n c)[2 + j * 3 + 0]? = some (.v (.int .i64 (o.getD j default).kind)) := desc_at h 0 (by decide)
theorem name_at {m : Nat} {s : List UInt8} {o : List Desc} {A : Option Addr} {n c j : Nat} (h : j < o.length) : (wCells m s o A n c)[2 + j * 3 + 1]? = some (sv (o.getD j default).name) := desc_at h 1 (by decide)
theorem place_at {m : Nat} {s : List UInt8} {o : List Desc} {A : Option Addr} {n c j : Nat} (h : j < o.length) : (wCells m s o A n c)[2 + j * 3 + 2]? = some (.v (.int .i64 ((o.getD j default).place : Int))) := desc_at h 2 (by decide)
theorem trace_at {m : Nat} {s : List UInt8} {o : List Desc} {A : Option Addr} {n c : Nat} (h : o.length = 19) : (wCells m s o A n c)[59]? = some (.v (.slice A n c)) := by
 have hl : ([T.v (.map (some m)), sv s] ++ o.flatMap descCells).length = 59 := by rw [List.length_append, len_desc, h]; rfl
 unfold wCells
 rw [List.getElem?_append_right (by omega), hl]
 rfl
theorem set_desc {m : Nat} {s : List UInt8} {o : List Desc} {A : Option Addr} {n c j : Nat} (h : j < o.length) (i q : Nat) (new : List T) (d' : Desc) (hin : i + q ≤ 3) (he : descCells d' = (descCells (o.getD j default)).take i ++ new ++ (descCells (o.getD j default)).drop (i + q)) :
    (wCells m s o A n c).take (2 + j * 3 + i) ++ new ++ (wCells m s o A n c).drop (2 + j * 3 + i + q) = wCells m s (o.set j d') A n c := by
 have hf := flat_set dk h i q new d' hin he
 have hl : j * 3 + i + q ≤ (o.flatMap descCells).length := by rw [len_desc]; omega
 unfold wCells
 rw [← hf]
 rw [show 2 + j * 3 + i = 2 + (j * 3 + i) by omega, show 2 + (j * 3 + i) + q = 2 + (j * 3 + i + q) by omega]
 have e1 : ∀ (B C : List T) (p : Nat), p ≤ B.length → (([T.v (.map (some m)), sv s] ++ B ++ C).take (2 + p)) = [T.v (.map (some m)), sv s] ++ B.take p := fun B C p hp => by
  rw [List.append_assoc, Nat.add_comm 2 p]
  simp only [List.cons_append, List.nil_append, List.take_succ_cons]
  rw [List.take_append_of_le_length hp]
 have e2 : ∀ (B C : List T) (p : Nat), p ≤ B.length → (([T.v (.map (some m)), sv s] ++ B ++ C).drop (2 + p)) = B.drop p ++ C := fun B C p hp => by
  rw [List.append_assoc, Nat.add_comm 2 p]
  simp only [List.cons_append, List.nil_append, List.drop_succ_cons]
  rw [List.drop_append_of_le_length hp]
 rw [e1 _ _ _ (by omega), e2 _ _ _ hl]
 simp only [List.append_assoc]
theorem set_trace {m : Nat} {s : List UInt8} {o : List Desc} {A A' : Option Addr} {n c n' c' : Nat} (h : o.length = 19) : (wCells m s o A n c).take 59 ++ [.v (.slice A' n' c')] ++ (wCells m s o A n c).drop 60 = wCells m s o A' n' c' := by
 have hl : ([T.v (.map (some m)), sv s] ++ o.flatMap descCells).length = 59 := by rw [List.length_append, len_desc, h]; rfl
 unfold wCells
 rw [List.take_left' hl, List.drop_of_length_le (by rw [List.length_append, hl]; simp), List.append_nil]
theorem ev_at {l : List Evt} {j : Nat} (h : j < l.length) (i : Nat) (hi : i < 3) : (l.flatMap evCells)[j * 3 + i]? = (evCells (l.getD j default))[i]? := flat_at ek h i hi
theorem evk_at {l : List Evt} {j : Nat} (h : j < l.length) : (l.flatMap evCells)[j * 3 + 0]? = some (.v (.int .i64 (l.getD j default).kind)) := ev_at h 0 (by decide)
theorem evn_at {l : List Evt} {j : Nat} (h : j < l.length) : (l.flatMap evCells)[j * 3 + 1]? = some (sv (l.getD j default).name) := ev_at h 1 (by decide)
theorem evt_at {l : List Evt} {j : Nat} (h : j < l.length) : (l.flatMap evCells)[j * 3 + 2]? = some (sv (l.getD j default).text) := ev_at h 2 (by decide)
theorem set_ev {l : List Evt} {j : Nat} (h : j < l.length) (t : List UInt8) : (l.flatMap evCells).set (j * 3 + 2) (sv t) = (l.set j { l.getD j default with text := t }).flatMap evCells := by
 have e := flat_set ek h 2 1 [sv t] { l.getD j default with text := t } (by decide) rfl
 rw [← e, List.set_eq_take_append_cons_drop, if_pos (by rw [len_ev]; omega), List.append_assoc]
 rfl
theorem clone_cells (s : List UInt8) : List.map u8 s ++ List.drop s.length (List.replicate s.length (List.map T.v [Value.int .u8 0])).flatten = List.map u8 s := by
 rw [List.drop_of_length_le (by simp), List.append_nil]
theorem files_good (l : List FileR) : ∀ e ∈ l.map fileKey, goodK .string e.1 = true := fun e he => by
 obtain ⟨f, _, rfl⟩ := List.mem_map.1 he
 rfl
end Go.Proofs.Ytlfklgganokgdaa.V

namespace Go.Proofs.Ytlfklgganokgdaa.V
open Go Go.RowKit

set_option maxHeartbeats 400000 in
theorem indexByte54 (s : List UInt8) (c : UInt8) :
    ACalls Try.prog 62 [sv s, .v (.int .u8 c.toNat)] [] fun t S => t = (.v (.int .i64 (Lib.indexByte s c))) := by
 refine ACalls.intro Try.func62 rfl Try.ntmps62 nB rfl fun X w0 => ?_
 refine ra ?_
 refine rs (ym ?_)
 refine ym ?_
 refine Y1 (Yv.indexByte Try.func73 (by kernel_rfl) (by kernel_rfl) (by kernel_rfl) (by kernel_rfl) rfl eV eV eV) ?_
 refine ya ?_
 refine AW.ret (retI (.tmp rfl .nil) ?_)
 rfl

set_option maxHeartbeats 400000 in
theorem indexByte32 (s : List UInt8) (c : UInt8) :
    ACalls Try.prog 44 [sv s, .v (.int .u8 c.toNat)] [] fun t S => t = (.v (.int .i64 (Lib.indexByte s c))) := by
 refine ACalls.intro Try.func44 rfl Try.ntmps44 nB rfl fun X w0 => ?_
 refine ra ?_
 refine rs (ym ?_)
 refine ym ?_
 refine AWL.callP rfl rfl (B rfl) rfl ce_62 (E rfl rfl) (evsC (E rfl rfl) (evsC (E rfl rfl) evs0)) (indexByte54 s c) (fun t S h => h) ?_
 refine ya ?_
 refine AW.ret (retI (.tmp rfl .nil) ?_)
 rfl

set_option maxHeartbeats 400000 in
theorem clone53 (s : List UInt8) (h : s.length ≤ 140737488355000) :
    ACalls Try.prog 43 [sv s] [] fun t S => t = sv s := by
 refine ACalls.intro Try.func43 rfl Try.ntmps43 nB rfl fun X w0 => ?_
 refine ra ?_
 refine AW.seq ?_
 refine rs (ym ?_)
 refine Y1 (Yv.lenL rfl st_9 eV) ?_
 refine Y1 (Yv.eql rfl eV eV) (nl ?_)
 refine AW.cond rfl (fun h0t => ?_) (fun h0f => ?_)
 ·try replace h0t := odt h0t
  have hne : s = [] := List.eq_nil_of_length_eq_zero (by omega)
  refine ra ?_
  refine AW.ret (retI (.tmp rfl .nil) ?_)
  rw [hne]; rfl
 try replace h0f := odf h0f
 have hne : s ≠ [] := fun e => h0f (by rw [e]; rfl)
 have hlen : 0 < s.length := List.length_pos_iff.2 hne
 refine AW.skip ?_
 refine rs (ym ?_)
 refine Y1 (Yv.lenL rfl st_9 eV) ?_
 refine AWL.makeRow (n := s.length) (c := s.length) rfl rfl (B rfl) rfl el_23 (E rfl rfl) (E rfl rfl) (by omega) (by omega) (by unfold maxLen; omega) (fun A9 => ?_)
 refine ya ?_
 refine rs (ym ?_)
 refine ym ?_
 refine AWL.copyRow (i := 0) rfl rfl (B rfl) rfl el_23 rfl (E rfl rfl) (SrcT.strL st_9 (E rfl rfl)) (by omega) (by omega) (nl ?_)
 rw [clone_cells s]
 refine rs (ym ?_)
 refine Y1 (Yv.indexRow rfl ss_23 (i := 0) rfl eV eV (fun hg => ⟨rfl, by omega⟩)) ?_
 refine ym ?_
 refine Y1 (Yv.lenV rfl so_23 eV) ?_
 refine AWL.unsafeStr (i := 0) rfl rfl (B rfl) rfl pt_126 rfl (E rfl rfl) (E rfl rfl) hne (by omega) ?_
 refine ya ?_
 refine AW.ret (retI (.tmp rfl .nil) ?_)
 rfl

set_option maxHeartbeats 400000 in
theorem clone26 (s : List UInt8) (h : s.length ≤ 140737488355000) :
    ACalls Try.prog 27 [sv s] [] fun t S => t = sv s := by
 refine ACalls.intro Try.func27 rfl Try.ntmps27 nB rfl fun X w0 => ?_
 refine ra ?_
 refine rs (ym ?_)
 refine AWL.callP rfl rfl (B rfl) rfl ce_43 (E rfl rfl) (evsC (E rfl rfl) evs0) (clone53 s h) (fun t S h => h) ?_
 refine ya ?_
 refine AW.ret (retI (.tmp rfl .nil) ?_)
 rfl

set_option maxHeartbeats 400000 in
theorem fits27 (s : List UInt8) :
    ACalls Try.prog 28 [sv s] [] fun t S => t = .v (.bool (!decide (s = []) && decide ((s.length : Int) ≤ 255) && decide (Lib.indexByte s 0 < 0))) := by
 refine ACalls.intro Try.func28 rfl Try.ntmps28 nB rfl fun X w0 => ?_
 refine ra ?_
 refine rs (ym ?_)
 refine Y1 (Yv.neqL rfl eV eV) ?_
 refine ym ?_
 refine gT (Yv.move rfl eV) ?_
 refine gT (Yv.lenL rfl st_9 (Eg rfl rfl id)) ?_
 refine gT (Yv.leq rfl (Eg rfl rfl id) eV) ?_
 refine Y1 (Yv.pickAnd rfl eV (Eg rfl rfl id)) ?_
 refine ym ?_
 refine gT (Yv.move rfl eV) ?_
 refine AWL.callPgT rfl rfl rfl rfl (B rfl) rfl ce_44 (E rfl rfl) (evsC (Eg rfl rfl id) (evsC (E rfl rfl) evs0)) (fun hg => indexByte32 s 0) (fun t S h => h) ?_
 refine gT (Yv.lss rfl (Eg rfl rfl id) eV) ?_
 refine Y1 (Yv.pickAnd rfl eV (Eg rfl rfl id)) ?_
 refine ya ?_
 refine AW.ret (retI (.tmp rfl .nil) ?_)
 rfl

end Go.Proofs.Ytlfklgganokgdaa.V

namespace Go.Proofs.Ytlfklgganokgdaa.V
open Go Go.RowKit
def lastE (l : List Evt) : Evt := l.getD (l.length - 1) default
def sayF (k : Int) (name text : List UInt8) (l : List Evt) : List Evt :=
 if text = [] then l else if 0 < l.length ∧ (lastE l).kind = k ∧ (lastE l).name = name then l.set (l.length - 1) { lastE l with text := (lastE l).text ++ text } else l ++ [⟨k, name, text⟩]
structure WB (n : Nat) (ws : WS) : Prop where
 opn : ws.opn.length = 19
 tr : ws.trace.length ≤ n
 txt : ∀ e ∈ ws.trace, e.text.length ≤ n
 fl : ∀ f ∈ ws.files, f.bytes.length ≤ n
 pl : ∀ d ∈ ws.opn, d.place ≤ n
 sin : ws.stdin.length ≤ n
theorem last_mem {l : List Evt} (h : 0 < l.length) : lastE l ∈ l := by
 unfold lastE
 rw [getD_eq' (by omega)]
 exact List.getElem_mem _
theorem sayF_nil {k : Int} {name : List UInt8} {l : List Evt} : sayF k name [] l = l := by simp [sayF]
theorem sayF_more {k : Int} {name text : List UInt8} {l : List Evt} (h0 : text ≠ []) (h : 0 < l.length ∧ (lastE l).kind = k ∧ (lastE l).name = name) : sayF k name text l = l.set (l.length - 1) { lastE l with text := (lastE l).text ++ text } := by
 unfold sayF; rw [if_neg h0, if_pos h]
theorem sayF_new {k : Int} {name text : List UInt8} {l : List Evt} (h0 : text ≠ []) (h : ¬ (0 < l.length ∧ (lastE l).kind = k ∧ (lastE l).name = name)) : sayF k name text l = l ++ [⟨k, name, text⟩] := by
 unfold sayF; rw [if_neg h0, if_neg h]
theorem wst_more {b m : Nat} {ws : WS} {k : Int} {name text : List UInt8} (h0 : text ≠ []) (h : 0 < ws.trace.length ∧ (lastE ws.trace).kind = k ∧ (lastE ws.trace).name = name) :
    WSt b m { ws with trace := sayF k name text ws.trace } = .box b 70 (wCells m ws.stdin ws.opn ws.tA ws.trace.length ws.tc) :: .map m (ws.files.map fileKey) :: .row ws.tA ws.trace.length ws.tc 90 3 ((ws.trace.flatMap evCells).set ((ws.trace.length - 1) * 3 + 2) (sv ((lastE ws.trace).text ++ text))) :: ws.files.map fileRow := by
 rw [sayF_more h0 h]
 simp only [WSt, List.length_set]
 rw [set_ev (by omega)]
 rfl
theorem wst_new {b m : Nat} {ws : WS} {k : Int} {name text : List UInt8} {A : Option Addr} {c : Nat} (ho : ws.opn.length = 19) (h0 : text ≠ []) (h : ¬ (0 < ws.trace.length ∧ (lastE ws.trace).kind = k ∧ (lastE ws.trace).name = name)) :
    WSt b m { ws with trace := sayF k name text ws.trace, tA := A, tc := c } = .box b 70 ((wCells m ws.stdin ws.opn ws.tA ws.trace.length ws.tc).take 59 ++ [.v (.slice A (ws.trace.length + 1) c)] ++ (wCells m ws.stdin ws.opn ws.tA ws.trace.length ws.tc).drop 60) :: .map m (ws.files.map fileKey) ::
     .row A (ws.trace.length + 1) c 90 3 (ws.trace.flatMap evCells ++ [.v (.int .i64 k), sv name, sv text]) :: ws.files.map fileRow := by
 rw [sayF_new h0 h]
 simp only [WSt, List.length_append, List.length_cons, List.length_nil, List.flatMap_append, List.flatMap_cons, List.flatMap_nil, List.append_nil, Nat.zero_add]
 rw [set_trace ho]
 rfl
end Go.Proofs.Ytlfklgganokgdaa.V

namespace Go.Proofs.Ytlfklgganokgdaa.V
open Go Go.RowKit

set_option maxHeartbeats 400000 in
theorem at29 (b j : Nat) (hj : j < 19) :
    ACalls Try.prog 78 [wp b, .v (.int .i64 (j : Int))] [] fun t S => t = .v (.pointer (some ⟨b, 2 + j * 3, none⟩)) := by
 refine ACalls.intro Try.func78 rfl Try.ntmps78 nB rfl fun X w0 => ?_
 refine ra ?_
 refine AW.seq ?_
 refine rs (ym ?_)
 refine Y1 (Yv.eqlNilP rfl pn_34 eV) ?_
 refine ym ?_
 refine gF (Yv.move rfl eV) ?_
 refine gF (Yv.lss rfl (Eg rfl rfl id) eV) ?_
 refine Y1 (Yv.pickOr (t := .const (.bool true)) rfl eV (Eg rfl rfl id)) ?_
 refine ym ?_
 refine gF (Yv.move rfl eV) ?_
 refine gF (Yv.geq rfl (Eg rfl rfl id) eV) ?_
 refine Y1 (Yv.pickOr (t := .const (.bool true)) rfl eV (Eg rfl rfl id)) (nl ?_)
 refine AW.cond rfl (fun h0t => ?_) (fun h0f => ?_)
 ·try replace h0t := odt h0t
  omega
 try replace h0f := odf h0f
 refine AW.skip ?_
 refine rs (ym ?_)
 refine ym ?_
 refine Y1 (Yv.nilChk rfl eV) ?_
 refine yf fo_70_2 ?_
 refine Y1 (Yv.indexArr rfl ar_68 eV eV (fun hg => ⟨rfl, by omega⟩)) ?_
 refine ya ?_
 refine AW.ret (retI (.tmp rfl .nil) ?_)
 rfl

set_option maxHeartbeats 1000000 in
theorem say30 (b m : Nat) (ws : WS) (k : Int) (name text : List UInt8) (n : Nat) (hw : WB n ws) (hn : n ≤ 1099511627776) (ht : text.length ≤ 1099511627776) :
    ACalls Try.prog 81 [wp b, .v (.int .i64 k), sv name, sv text] (WSt b m ws) (fun t S => t = .tup [] ∧ ∃ A c, S = WSt b m { ws with trace := sayF k name text ws.trace, tA := A, tc := c }) := by
 obtain ⟨ho, htr, htx, hfl, hpl, hsi⟩ := hw
 refine ACalls.intro Try.func81 rfl Try.ntmps81 nB rfl fun X w0 => ?_
 refine AW.seq ?_
 refine rs (ym ?_)
 refine Y1 (Yv.eqlL rfl eV eV) (nl ?_)
 refine AW.cond rfl (fun h0t => ?_) (fun h0f => ?_)
 ·try replace h0t := odt h0t
  refine AW.ret (retI .nil ?_)
  exact ⟨rfl, ws.tA, ws.tc, by rw [h0t, sayF_nil]⟩
 try replace h0f := odf h0f
 refine AW.skip ?_
 refine AW.seq ?_
 refine rs (ym ?_)
 refine Y1 (Yv.nilChk rfl eV) ?_
 refine yf fo_70_3 ?_
 refine Y1 (Yv.loadBox rfl ag_44 (i := 0) rfl eV (trace_at ho)) ?_
 refine Y1 (Yv.lenV rfl so_44 eV) ?_
 refine ya ?_
 refine rs (ym ?_)
 refine Y1 (Yv.gtr rfl eV eV) ?_
 refine ym ?_
 refine gT (Yv.move rfl eV) ?_
 refine gT (Yv.nilChk rfl (Eg rfl rfl id)) ?_
 refine gT (Yv.fieldBox rfl fo_70_3 (Eg rfl rfl id)) ?_
 refine gT (Yv.loadBox rfl ag_44 (i := 0) rfl (Eg rfl rfl id) (trace_at ho)) ?_
 refine gT (Yv.move rfl eV) ?_
 refine gT (Yv.subN_i64 rfl (Eg rfl rfl id) (E rfl rfl) (fun hg => by first | omega | (simp only [Bool.and_eq_true, Bool.or_eq_false_iff, Bool.not_eq_true', Bool.not_eq_false', decide_eq_true_eq, decide_eq_false_iff_not] at hg; omega))) ?_
 refine gT (Yv.indexRow (j := ws.trace.length - 1) rfl ss_44 (i := 2) rfl (Eg rfl rfl id) (Eg rfl rfl id) (fun hg => by first | exact ⟨by omega, by omega⟩ | (simp only [Bool.or_eq_true, Bool.and_eq_true, Bool.or_eq_false_iff, Bool.and_eq_false_iff, Bool.not_eq_true', Bool.not_eq_false', decide_eq_true_eq, decide_eq_false_iff_not, Decidable.not_not] at hg; exact ⟨by omega, by omega⟩))) ?_
 refine gT (Yv.fieldEp rfl fo_90_0 (Eg rfl rfl id)) ?_
 refine gT (Yv.loadEp rfl ag_3 (i := 2) rfl (Eg rfl rfl id) (fun hg => evk_at (by first | omega | (simp only [Bool.or_eq_true, Bool.and_eq_true, Bool.or_eq_false_iff, Bool.and_eq_false_iff, Bool.not_eq_true', Bool.not_eq_false', decide_eq_true_eq, decide_eq_false_iff_not, Decidable.not_not] at hg; omega)))) ?_
 refine gT (Yv.move rfl eV) ?_
 refine gT (Yv.eql rfl (Eg rfl rfl id) (Eg rfl rfl id)) ?_
 refine Y1 (Yv.pickAnd rfl eV (Eg rfl rfl id)) ?_
 refine ym ?_
 refine gT (Yv.move rfl eV) ?_
 refine gT (Yv.nilChk rfl (Eg rfl rfl id)) ?_
 refine gT (Yv.fieldBox rfl fo_70_3 (Eg rfl rfl id)) ?_
 refine gT (Yv.loadBox rfl ag_44 (i := 0) rfl (Eg rfl rfl id) (trace_at ho)) ?_
 refine gT (Yv.move rfl eV) ?_
 refine gT (Yv.subN_i64 rfl (Eg rfl rfl id) (E rfl rfl) (fun hg => by first | omega | (simp only [Bool.and_eq_true, Bool.or_eq_false_iff, Bool.not_eq_true', Bool.not_eq_false', decide_eq_true_eq, decide_eq_false_iff_not] at hg; omega))) ?_
 refine gT (Yv.indexRow (j := ws.trace.length - 1) rfl ss_44 (i := 2) rfl (Eg rfl rfl id) (Eg rfl rfl id) (fun hg => by first | exact ⟨by omega, by omega⟩ | (simp only [Bool.or_eq_true, Bool.and_eq_true, Bool.or_eq_false_iff, Bool.and_eq_false_iff, Bool.not_eq_true', Bool.not_eq_false', decide_eq_true_eq, decide_eq_false_iff_not, Decidable.not_not] at hg; exact ⟨by omega, by omega⟩))) ?_
 refine gT (Yv.fieldEp rfl fo_90_1 (Eg rfl rfl id)) ?_
 refine gT (Yv.loadEp rfl ag_9 (i := 2) rfl (Eg rfl rfl id) (fun hg => evn_at (by first | omega | (simp only [Bool.or_eq_true, Bool.and_eq_true, Bool.or_eq_false_iff, Bool.and_eq_false_iff, Bool.not_eq_true', Bool.not_eq_false', decide_eq_true_eq, decide_eq_false_iff_not, Decidable.not_not] at hg; omega)))) ?_
 refine gT (Yv.move rfl eV) ?_
 refine gT (Yv.eqlL rfl (Eg rfl rfl id) (Eg rfl rfl id)) ?_
 refine Y1 (Yv.pickAnd rfl eV (Eg rfl rfl id)) (nl ?_)
 refine AW.cond rfl (fun h1t => ?_) (fun h1f => ?_)
 ·simp only [Bool.or_eq_true, Bool.and_eq_true, Bool.or_eq_false_iff, Bool.and_eq_false_iff, Bool.not_eq_true', Bool.not_eq_false', decide_eq_true_eq, decide_eq_false_iff_not, Decidable.not_not] at h1t
  obtain ⟨⟨g1, g2⟩, g3⟩ := h1t
  have hlast := htx _ (last_mem (l := ws.trace) (by omega))
  unfold lastE at hlast
  refine rs (ym ?_)
  refine Y1 (Yv.nilChk rfl eV) ?_
  refine yf fo_70_3 ?_
  refine Y1 (Yv.loadBox rfl ag_44 (i := 0) rfl eV (trace_at ho)) ?_
  refine ym ?_
  refine Y1 (Yv.subN_i64 rfl eV eV (fun hg => by omega)) ?_
  refine Y1 (Yv.indexRow (j := ws.trace.length - 1) rfl ss_44 (i := 2) rfl (E rfl rfl) (E rfl rfl) (fun hg => by first | exact ⟨by omega, by omega⟩ | (simp only [Bool.or_eq_true, Bool.and_eq_true, Bool.or_eq_false_iff, Bool.and_eq_false_iff, Bool.not_eq_true', Bool.not_eq_false', decide_eq_true_eq, decide_eq_false_iff_not, Decidable.not_not] at hg; exact ⟨by omega, by omega⟩))) ?_
  refine Y1 (Yv.fieldEp rfl fo_90_2 eV) ?_
  refine Y1 (Yv.loadEp rfl ag_9 (i := 2) rfl (E rfl rfl) (fun hg => evt_at (by first | omega | (simp only [Bool.or_eq_true, Bool.and_eq_true, Bool.or_eq_false_iff, Bool.and_eq_false_iff, Bool.not_eq_true', Bool.not_eq_false', decide_eq_true_eq, decide_eq_false_iff_not, Decidable.not_not] at hg; omega)))) ?_
  refine ym ?_
  refine Y1 (Yv.addL rfl eV eV (fun hg => by first | omega | (simp only [List.length_append, List.length_cons, List.length_nil]; omega))) ?_
  refine Y1 (Yv.indexRow (j := ws.trace.length - 1) rfl ss_44 (i := 2) rfl (E rfl rfl) (E rfl rfl) (fun hg => by first | exact ⟨by omega, by omega⟩ | (simp only [Bool.or_eq_true, Bool.and_eq_true, Bool.or_eq_false_iff, Bool.and_eq_false_iff, Bool.not_eq_true', Bool.not_eq_false', decide_eq_true_eq, decide_eq_false_iff_not, Decidable.not_not] at hg; exact ⟨by omega, by omega⟩))) ?_
  refine Y1 (Yv.fieldEp rfl fo_90_2 eV) ?_
  refine AWL.storeEp1 (i := 2) rfl rfl rfl ag_9 rfl (E rfl rfl) (E rfl rfl) rfl rfl (by rw [len_ev]; omega) (nl ?_)
  refine AW.ret (retI .nil ?_)
  exact ⟨rfl, ws.tA, ws.tc, (wst_more h0f ⟨by omega, g2, g3⟩).symm⟩
 have hno : ¬ (0 < ws.trace.length ∧ (lastE ws.trace).kind = k ∧ (lastE ws.trace).name = name) := fun q => by
  obtain ⟨q1, q2, q3⟩ := q
  unfold lastE at q2 q3
  rw [decide_eq_true (show (0 : Int) < ws.trace.length by omega), decide_eq_true q2, decide_eq_true q3] at h1f
  cases h1f
 refine AW.skip ?_
 refine AW.regionP rfl ?_
 refine T1 (i := 0) rfl (freeMove rfl (E rfl rfl)) ?_
 refine T1 (i := 1) rfl (freeMove rfl (E rfl rfl)) ?_
 refine T1 (i := 2) rfl (freeNil rfl (E rfl rfl)) ?_
 refine T1 (i := 3) rfl (freeField rfl fo_70_3 (E rfl rfl)) ?_
 refine T1 (i := 5) rfl (freeMove rfl (E rfl rfl)) ?_
 refine T1 (i := 6) rfl (freeMove rfl (E rfl rfl)) ?_
 refine T1 (i := 7) rfl (freeMove rfl (E rfl rfl)) ?_
 refine AWP.two (i := 4) (j := 8) (by kernel_rfl) rfl rfl ?_ ?_
 ·refine Y1 (Yv.loadBox rfl ag_44 (i := 0) rfl eV (trace_at ho)) (nl ?_)
  refine p1 8 ?_
  refine AWL.callP rfl rfl (B rfl) rfl ce_27 (E rfl rfl) (evsC (E rfl rfl) evs0) (clone26 text (by omega)) (fun t S h => h) (nl ?_)
  refine p1 9 ?_
  refine Y1 (Yv.buildS rfl sh_90 (evpC eV (evpC eV (evpC eV evp0))) (fun _ => rfl)) (nl ?_)
  refine p1 10 ?_
  refine AWL.buildSliceE rfl rfl (B rfl) rfl el_44 (B rfl) rfl (evsC (E rfl rfl) evs0) nB rfl rfl (nl ?_)
  refine p1 11 ?_
  refine AWL.appendRow (i := 2) rfl rfl (B rfl) rfl el_44 (B rfl) rfl (E rfl rfl) (SrcT.sl so_44 (B rfl) (E rfl rfl) (m := 1) rfl) (by unfold maxLen; omega) (by omega) (fun A68 c68 => ?_)
  refine nl ?_
  refine p1 12 ?_
  refine Y1 (Yv.nilChk rfl eV) (nl ?_)
  refine p1 13 ?_
  refine yf fo_70_3 (nl ?_)
  refine p1 14 ?_
  refine AWL.storeBox (i := 0) rfl rfl rfl ag_44 rfl (E rfl rfl) (E rfl rfl) rfl rfl (by rw [wCells_len, ho]; omega) (nl ?_)
  refine AWP.done (by kernel_rfl) ?_
  refine retN .nil ?_
  exact ⟨rfl, A68, c68, (wst_new ho h0f hno).symm⟩
 refine AWL.callP rfl rfl (B rfl) rfl ce_27 (E rfl rfl) (evsC (E rfl rfl) evs0) (clone26 text (by omega)) (fun t S h => h) (nl ?_)
 refine AWP.two (i := 4) (j := 9) (by kernel_rfl) rfl rfl ?_ ?_
 ·refine Y1 (Yv.loadBox rfl ag_44 (i := 0) rfl eV (trace_at ho)) (nl ?_)
  refine p1 9 ?_
  refine Y1 (Yv.buildS rfl sh_90 (evpC eV (evpC eV (evpC eV evp0))) (fun _ => rfl)) (nl ?_)
  refine p1 10 ?_
  refine AWL.buildSliceE rfl rfl (B rfl) rfl el_44 (B rfl) rfl (evsC (E rfl rfl) evs0) nB rfl rfl (nl ?_)
  refine p1 11 ?_
  refine AWL.appendRow (i := 2) rfl rfl (B rfl) rfl el_44 (B rfl) rfl (E rfl rfl) (SrcT.sl so_44 (B rfl) (E rfl rfl) (m := 1) rfl) (by unfold maxLen; omega) (by omega) (fun A68 c68 => ?_)
  refine nl ?_
  refine p1 12 ?_
  refine Y1 (Yv.nilChk rfl eV) (nl ?_)
  refine p1 13 ?_
  refine yf fo_70_3 (nl ?_)
  refine p1 14 ?_
  refine AWL.storeBox (i := 0) rfl rfl rfl ag_44 rfl (E rfl rfl) (E rfl rfl) rfl rfl (by rw [wCells_len, ho]; omega) (nl ?_)
  refine AWP.done (by kernel_rfl) ?_
  refine retN .nil ?_
  exact ⟨rfl, A68, c68, (wst_new ho h0f hno).symm⟩
 refine Y1 (Yv.buildS rfl sh_90 (evpC eV (evpC eV (evpC eV evp0))) (fun _ => rfl)) (nl ?_)
 refine AWP.two (i := 4) (j := 10) (by kernel_rfl) rfl rfl ?_ ?_
 ·refine Y1 (Yv.loadBox rfl ag_44 (i := 0) rfl eV (trace_at ho)) (nl ?_)
  refine p1 10 ?_
  refine AWL.buildSliceE rfl rfl (B rfl) rfl el_44 (B rfl) rfl (evsC (E rfl rfl) evs0) nB rfl rfl (nl ?_)
  refine p1 11 ?_
  refine AWL.appendRow (i := 2) rfl rfl (B rfl) rfl el_44 (B rfl) rfl (E rfl rfl) (SrcT.sl so_44 (B rfl) (E rfl rfl) (m := 1) rfl) (by unfold maxLen; omega) (by omega) (fun A68 c68 => ?_)
  refine nl ?_
  refine p1 12 ?_
  refine Y1 (Yv.nilChk rfl eV) (nl ?_)
  refine p1 13 ?_
  refine yf fo_70_3 (nl ?_)
  refine p1 14 ?_
  refine AWL.storeBox (i := 0) rfl rfl rfl ag_44 rfl (E rfl rfl) (E rfl rfl) rfl rfl (by rw [wCells_len, ho]; omega) (nl ?_)
  refine AWP.done (by kernel_rfl) ?_
  refine retN .nil ?_
  exact ⟨rfl, A68, c68, (wst_new ho h0f hno).symm⟩
 refine AWL.buildSliceE rfl rfl (B rfl) rfl el_44 (B rfl) rfl (evsC (E rfl rfl) evs0) nB rfl rfl (nl ?_)
 refine p1 4 ?_
 refine Y1 (Yv.loadBox rfl ag_44 (i := 0) rfl eV (trace_at ho)) (nl ?_)
 refine p1 11 ?_
 refine AWL.appendRow (i := 2) rfl rfl (B rfl) rfl el_44 (B rfl) rfl (E rfl rfl) (SrcT.sl so_44 (B rfl) (E rfl rfl) (m := 1) rfl) (by unfold maxLen; omega) (by omega) (fun A68 c68 => ?_)
 refine nl ?_
 refine p1 12 ?_
 refine Y1 (Yv.nilChk rfl eV) (nl ?_)
 refine p1 13 ?_
 refine yf fo_70_3 (nl ?_)
 refine p1 14 ?_
 refine AWL.storeBox (i := 0) rfl rfl rfl ag_44 rfl (E rfl rfl) (E rfl rfl) rfl rfl (by rw [wCells_len, ho]; omega) (nl ?_)
 refine AWP.done (by kernel_rfl) ?_
 refine retN .nil ?_
 exact ⟨rfl, A68, c68, (wst_new ho h0f hno).symm⟩

end Go.Proofs.Ytlfklgganokgdaa.V

namespace Go.Proofs.Ytlfklgganokgdaa.V
open Go Go.RowKit
def padTo (l : List UInt8) (n : Nat) : List UInt8 := l ++ List.replicate (n - l.length) 0
def writeAt (l : List UInt8) (p : Nat) (s : List UInt8) : List UInt8 := (padTo l (p + s.length)).take p ++ s ++ (padTo l (p + s.length)).drop (p + s.length)
theorem padTo_len (l : List UInt8) (n : Nat) : (padTo l n).length = max l.length n := by simp [padTo]; omega
theorem writeAt_len (l : List UInt8) (p : Nat) (s : List UInt8) : (writeAt l p s).length = max l.length (p + s.length) := by
 have := padTo_len l (p + s.length)
 simp only [writeAt, List.length_append, List.length_take, List.length_drop]
 omega
theorem writeAt_cells (l : List UInt8) (p : Nat) (s : List UInt8) : ((padTo l (p + s.length)).map u8).take p ++ s.map u8 ++ ((padTo l (p + s.length)).map u8).drop (p + s.length) = (writeAt l p s).map u8 := by
 simp only [writeAt, List.map_append, List.map_take, List.map_drop]
theorem pad_cells (l : List UInt8) (k : Nat) : l.map u8 ++ List.replicate k (T.v (.int .u8 0)) = (l ++ List.replicate k 0).map u8 := by
 simp [u8]
def Uniq (l : List FileR) : Prop := (l.map (·.name)).Nodup
theorem get_file {l : List FileR} : ∀ {q : Nat}, Uniq l → q < l.length → getK (.s (l.getD q default).name) (l.map fileKey) = some (fileKey (l.getD q default)).2 := by
 induction l with
 | nil => intro q _ h; simp at h
 | cons f r ih =>
  intro q hu hq
  rw [Uniq, List.map_cons, List.nodup_cons] at hu
  cases q with
  | zero => simp [getK, fileKey]
  | succ q =>
   have hq' : q < r.length := by simpa using hq
   rw [List.getD_cons_succ, List.map_cons, getK, if_neg, ih hu.2 hq']
   intro e
   simp only [fileKey, Key.s.injEq] at e
   refine hu.1 (List.mem_map.2 ⟨r.getD q default, ?_, e.symm⟩)
   rw [getD_eq' hq']
   exact List.getElem_mem hq'
theorem put_file {l : List FileR} : ∀ {q : Nat} (f : FileR), Uniq l → q < l.length → f.name = (l.getD q default).name → putK (.s f.name) (.v (.slice f.A f.bytes.length f.c)) (l.map fileKey) = (l.set q f).map fileKey := by
 induction l with
 | nil => intro q f _ h; simp at h
 | cons f0 r ih =>
  intro q f hu hq he
  rw [Uniq, List.map_cons, List.nodup_cons] at hu
  cases q with
  | zero =>
   simp only [List.getD_cons_zero] at he
   simp [putK, fileKey, he]
  | succ q =>
   have hq' : q < r.length := by simpa using hq
   rw [List.getD_cons_succ] at he
   rw [List.map_cons, putK, if_neg, List.set_cons_succ, List.map_cons, ih f hu.2 hq' he]
   intro e
   simp only [fileKey, Key.s.injEq] at e
   refine hu.1 (List.mem_map.2 ⟨r.getD q default, ?_, ?_⟩)
   ·rw [getD_eq' hq']; exact List.getElem_mem hq'
   ·rw [e, he]
theorem put_new {l : List FileR} (f : FileR) (h : ∀ g ∈ l, g.name ≠ f.name) : putK (.s f.name) (.v (.slice f.A f.bytes.length f.c)) (l.map fileKey) = (l ++ [f]).map fileKey := by
 induction l with
 | nil => rfl
 | cons g r ih =>
  rw [List.map_cons, putK, if_neg, ih (fun x hx => h x (List.mem_cons_of_mem _ hx))]
  ·rfl
  ·intro e
   simp only [fileKey, Key.s.injEq] at e
   exact h g (List.mem_cons_self ..) e
theorem file_row {b m : Nat} {ws : WS} {q : Nat} (h : q < ws.files.length) : (WSt b m ws)[q + 3]? = some (fileRow (ws.files.getD q default)) := by
 have : (WSt b m ws)[q + 3]? = (ws.files.map fileRow)[q]? := rfl
 rw [this, List.getElem?_map, getD_eq' h, List.getElem?_eq_getElem h]
 rfl
theorem row_set {b m : Nat} {ws : WS} {q : Nat} (f : FileR) : (WSt b m ws).set (q + 3) (fileRow f) = .box b 70 (wCells m ws.stdin ws.opn ws.tA ws.trace.length ws.tc) :: .map m (ws.files.map fileKey) :: .row ws.tA ws.trace.length ws.tc 90 3 (ws.trace.flatMap evCells) :: (ws.files.set q f).map fileRow := by
 rw [List.map_set]; rfl
theorem file_row_set {b m : Nat} {ws : WS} {q : Nat} (h : q < ws.files.length) (e : Ent) : ((WSt b m ws).set (q + 3) e)[q + 3]? = some e := by
 rw [List.getElem?_set_self]
 show q + 3 < (ws.files.map fileRow).length + 1 + 1 + 1
 rw [List.length_map]; omega
theorem getD_set {α : Type} {l : List α} {j : Nat} (h : j < l.length) (a d : α) : (l.set j a).getD j d = a := by
 simp [List.getD, h]
theorem wst_same {b m : Nat} {ws : WS} {q : Nat} (h : q < ws.files.length) : (WSt b m ws).set (q + 3) (fileRow (ws.files.getD q default)) = WSt b m ws := by
 rw [row_set, getD_eq' h, List.set_getElem_self]; rfl
theorem wst_wrote {b m : Nat} {ws : WS} {q j : Nat} (f1 f2 : FileR) (d2 : Desc) : ((((WSt b m ws).set (q + 3) (fileRow f1)).set (q + 3) (fileRow f2)).set 1 (.map m ((ws.files.set q f2).map fileKey))).set 0 (.box b 70 (wCells m ws.stdin (ws.opn.set j d2) ws.tA ws.trace.length ws.tc)) = WSt b m { ws with files := ws.files.set q f2, opn := ws.opn.set j d2 } := by
 rw [List.set_set, row_set]; rfl
theorem padTo_id {l : List UInt8} {n : Nat} (h : n ≤ l.length) : padTo l n = l := by
 unfold padTo
 rw [show n - l.length = 0 by omega]; simp
theorem rot3 {a b c : Ent} {l : St} : (c :: a :: b :: l).Perm (a :: b :: c :: l) :=
 (List.Perm.swap a c (b :: l)).trans ((List.Perm.swap b c l).cons a)
theorem rot3' {a b c : Ent} {l : St} : (a :: b :: c :: l).Perm (c :: a :: b :: l) := rot3.symm
def wrF (j q : Nat) (s : List UInt8) (A : Option Addr) (c : Nat) (tA : Option Addr) (tc : Nat) (ws : WS) : WS :=
 if s = [] then ws else
  { ws with files := ws.files.set q { ws.files.getD q default with bytes := writeAt (ws.files.getD q default).bytes (ws.opn.getD j default).place s, A := A, c := c }, opn := ws.opn.set j { ws.opn.getD j default with place := (ws.opn.getD j default).place + s.length },
            trace := sayF 3 (ws.opn.getD j default).name s ws.trace, tA := tA, tc := tc }
theorem wb_wrote {j q n : Nat} {ws : WS} {s : List UInt8} (hj : j < 19) (hq : q < ws.files.length) (hw : WB n ws) (A : Option Addr) (c : Nat) :
    WB (n + s.length) { ws with files := ws.files.set q { ws.files.getD q default with bytes := writeAt (ws.files.getD q default).bytes (ws.opn.getD j default).place s, A := A, c := c }, opn := ws.opn.set j { ws.opn.getD j default with place := (ws.opn.getD j default).place + s.length } } := by
 obtain ⟨ho, htr, htx, hfl, hpl, hsi⟩ := hw
 have h1 : (ws.opn.getD j default).place ≤ n := hpl _ (by rw [getD_eq' (show j < ws.opn.length by omega)]; exact List.getElem_mem _)
 have h2 : (ws.files.getD q default).bytes.length ≤ n := hfl _ (by rw [getD_eq' hq]; exact List.getElem_mem _)
 refine ⟨by simpa using ho, by simp only; omega, fun e he => by have := htx e he; omega, fun f hf => ?_, fun d hd => ?_, by simp only; omega⟩
 ·rcases List.mem_or_eq_of_mem_set hf with hf | rfl
  ·have := hfl f hf; omega
  simp only [writeAt_len]; omega
 rcases List.mem_or_eq_of_mem_set hd with hd | rfl
 ·have := hpl d hd; omega
 simp only; omega
def closeF (j : Nat) (o : List Desc) : List Desc := if (o.getD j default).kind = 0 then o else o.set j ⟨0, [], 0⟩
theorem getD_mem' {α : Type} [Inhabited α] {l : List α} {j : Nat} (h : j < l.length) : l.getD j default ∈ l := by
 rw [getD_eq' h]; exact List.getElem_mem h
end Go.Proofs.Ytlfklgganokgdaa.V
