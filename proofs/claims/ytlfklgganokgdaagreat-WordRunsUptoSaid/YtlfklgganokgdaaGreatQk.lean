/-
  TEXTS JOINED: Zk4, Zk5, Zk6, Zk7, Zc, Zk8, Zk9, Zk10, Zk11, Zk12, Zk13, Wk34, Zk14.
-/
import Derived.Test.YtlfklgganokgdaaGreatQj
set_option linter.unusedSimpArgs false
set_option linter.unusedVariables false
set_option linter.unusedSectionVars false
set_option linter.unnecessarySimpa false
set_option maxHeartbeats 64000000
namespace Go.Proofs.YtlfklgganokgdaaGreat
open Go Go.RowKit

theorem Dopen43_ (s : Nat) (x : PS) (ob : Bool) (fi : Nat) (args : List Wd64) (d : Int) (C : Option Addr) (n c : Nat) (cs : List T) (R K : Nat) (hf : fi < x.prog.funs.length) (hpf : x.prog.funs.length ≤ 1048576) (hR : (x.prog.funs.getD fi default).regs = (R : Int)) (hK : (x.prog.funs.getD fi default).slots = (K : Int)) (hR1 : R ≤ 65536) (hK1 : K ≤ 1048576) (ha : args.length ≤ R) (hn : n ≤ 1048576) :
    ACalls Tryz.prog 43 [pv s, .v (.int .i64 (fi : Int)), .sl 1 (args.map zw), zi d] [.box s 64 (psD x ob (.v (.slice C n c))), .row C n c 108 7 cs] (fun t S => t = .tup [] ∧ ∃ g c' a, S = [.box s 64 (psD x ob (.v (.slice (sg g) (n + 1) c'))), .row (sg g) (n + 1) c' 108 7 (cs ++ frD ⟨fi, 0, R, K, rJ args R args.length, List.replicate K 0#64, sJ R args.length, List.replicate K false, d⟩ a)] ++ frE ⟨fi, 0, R, K, rJ args R args.length, List.replicate K 0#64, sJ R args.length, List.replicate K false, d⟩ a) := by
 have hpR : Pin (zi (x.prog.funs.getD fi default).regs) (.int .i64 (R : Int)) := by rw [hR]; exact pinV
 have hpK : Pin (zi (x.prog.funs.getD fi default).slots) (.int .i64 (K : Int)) := by rw [hK]; exact pinV
 refine ai Tryz.func43 Tryz.ntmps43 fun X w0 => ?_
 refine rs (y8 ?_)
 refine bx fun b8 => ?_
 refine y1 (nl ?_)
 refine AW.rseqH (HeldCs [(b8, 2, Value.int .i64 (R : Int)), (b8, 3, Value.int .i64 (K : Int))]) rfl (tells_cs (tcB 2 rfl rfl hpR (tcB 2 rfl rfl hpK tc0))) ?_
 refine tq 0 ?_
 refine tq 1 ?_
 refine tq 2 ?_
 refine tq 3 ?_
 refine tq 5 ?_
 refine tq 6 ?_
 refine tq 8 ?_
 refine tq 9 ?_
 refine tq 11 ?_
 refine tq 12 ?_
 refine AWH.free [⟨4, some 23, [], [4], (fun l => .v (.slice (l.getD 0 default).1 R R)), (fun _ => True)⟩, ⟨7, some 26, [], [7], (fun l => .v (.slice (l.getD 0 default).1 R R)), (fun _ => True)⟩, ⟨10, some 29, [], [10], (fun l => .v (.slice (l.getD 0 default).1 K K)), (fun _ => True)⟩, ⟨13, some 32, [], [13], (fun l => .v (.slice (l.getD 0 default).1 K K)), (fun _ => True)⟩, ⟨14, some 33, [4, 7, 10, 13], [4, 7, 10, 13], (fun l => .agg (frD ⟨fi, 0, R, K, rJ args R 0, List.replicate K 0#64, sJ R 0, List.replicate K false, d⟩ ⟨(l.getD 0 default).1, (l.getD 2 default).1, (l.getD 1 default).1, (l.getD 3 default).1⟩)), (fun _ => True)⟩, ⟨15, some 9, [], [15], (fun l => .v (.pointer (some ⟨(l.getD 0 default).2, 0, none⟩))), (fun _ => True)⟩, ⟨16, none, [4, 7, 10, 13, 14, 15], [], (fun _ => .v (.bool false)), (fun _ => True)⟩] [⟨4, [4], (fun l => .row (l.getD 0 default).1 R R 29 1 ((rJ args R 0).map zw)), 999, [4], (fun l => .row (l.getD 0 default).1 R R 29 1 ((rJ args R 0).map zw))⟩, ⟨7, [7], (fun l => .row (l.getD 0 default).1 R R 4 1 ((sJ R 0).map bv)), 999, [7], (fun l => .row (l.getD 0 default).1 R R 4 1 ((sJ R 0).map bv))⟩, ⟨10, [10], (fun l => .row (l.getD 0 default).1 K K 29 1 ((List.replicate K 0#64).map zw)), 999, [10], (fun l => .row (l.getD 0 default).1 K K 29 1 ((List.replicate K 0#64).map zw))⟩, ⟨13, [13], (fun l => .row (l.getD 0 default).1 K K 4 1 ((List.replicate K false).map bv)), 999, [13], (fun l => .row (l.getD 0 default).1 K K 4 1 ((List.replicate K false).map bv))⟩, ⟨15, [15], (fun l => .box (l.getD 0 default).2 108 [zi 0, zi 0, nilT, nilT, nilT, nilT, zi 0]), 16, [4, 7, 10, 13, 15], (fun l => .box (l.getD 4 default).2 108 (frD ⟨fi, 0, R, K, rJ args R 0, List.replicate K 0#64, sJ R 0, List.replicate K false, d⟩ ⟨(l.getD 0 default).1, (l.getD 2 default).1, (l.getD 1 default).1, (l.getD 3 default).1⟩))⟩] 0 #[true, true, true, true, true, true, true, true, true, true, true, true, true, true, true, true, true] (ι := Option Addr × Option Addr × Option Addr × Option Addr × Nat) (fun ⟨A23, A26, A29, A32, b9⟩ => [(9, true, pv b9), (0, true, pv s), (1, true, .v (.int .i64 (fi : Int))), (2, true, .sl 1 (args.map zw)), (3, true, zi d), (8, true, pv b8)]) (fun ⟨A23, A26, A29, A32, b9⟩ => (.row A23 R R 29 1 ((rJ args R 0).map zw) :: .row A26 R R 4 1 ((sJ R 0).map bv) :: .row A29 K K 29 1 ((List.replicate K 0#64).map zw) :: .row A32 K K 4 1 ((List.replicate K false).map bv) :: .box b9 108 (frD ⟨fi, 0, R, K, rJ args R 0, List.replicate K 0#64, sJ R 0, List.replicate K false, d⟩ ⟨A23, A29, A26, A32⟩) :: .box s 64 (psD x ob (.v (.slice C n c))) :: .row C n c 108 7 cs :: .box b8 86 (fnCells (x.prog.funs.getD fi default)) :: [])) (fun ⟨A23, A26, A29, A32, b9⟩ => True) rfl (by kernel_rfl) (by kernel_rfl) (tcB 2 rfl rfl hpR (tcB 2 rfl rfl hpK tc0)) ?_ ?_ ?_
 ·refine obC rfl (fun γ env X hS hv => ?_) ?_
  ·refine AWL.makeRow (n := R) (c := R) rfl rfl (B rfl) rfl el_30 (Es hS (E rfl rfl)) (Es hS (E rfl rfl)) (Nat.le_refl _) (by omega) (by unfold maxLen; omega) (fun A23 => ?_)
   refine AWL.eqLast (zero_r args R) ?_
   exact AWL.nil (frA (A23, 0) trivial rfl (List.perm_append_singleton _ _))
  refine obC rfl (fun γ env X hS hv => ?_) ?_
  ·refine AWL.makeRow (n := R) (c := R) rfl rfl (B rfl) rfl el_102 (Es hS (E rfl rfl)) (Es hS (E rfl rfl)) (Nat.le_refl _) (by omega) (by unfold maxLen; omega) (fun A26 => ?_)
   refine AWL.eqLast (zero_s R) ?_
   exact AWL.nil (frA (A26, 0) trivial rfl (List.perm_append_singleton _ _))
  refine obC rfl (fun γ env X hS hv => ?_) ?_
  ·refine AWL.makeRow (n := K) (c := K) rfl rfl (B rfl) rfl el_30 (Es hS (E rfl rfl)) (Es hS (E rfl rfl)) (Nat.le_refl _) (by omega) (by unfold maxLen; omega) (fun A29 => ?_)
   refine AWL.eqLast (mk_zero K) ?_
   exact AWL.nil (frA (A29, 0) trivial rfl (List.perm_append_singleton _ _))
  refine obC rfl (fun γ env X hS hv => ?_) ?_
  ·refine AWL.makeRow (n := K) (c := K) rfl rfl (B rfl) rfl el_102 (Es hS (E rfl rfl)) (Es hS (E rfl rfl)) (Nat.le_refl _) (by omega) (by unfold maxLen; omega) (fun A32 => ?_)
   refine AWL.eqLast (zero_b K) ?_
   exact AWL.nil (frA (A32, 0) trivial rfl (List.perm_append_singleton _ _))
  refine obC rfl (fun γ env X hS hv => ?_) ?_
  ·refine Y1 (Yv.buildS rfl sh_108 (evpC (Es hS eV) (evpC (Es hS eV) (evpC (Es hS eV) (evpC (Es hS eV) (evpC (Es hS eV) (evpC (Es hS eV) evp0)))))) (fun _ => rfl)) ?_
   exact AWL.nil (frA (none, 0) trivial rfl (.refl _))
  refine obC rfl (fun γ env X hS hv => ?_) ?_
  ·refine bx fun b9 => ?_
   exact AWL.nil (frA (none, b9) trivial rfl (List.perm_append_singleton _ _))
  refine obC rfl (fun γ env X hS hv => ?_) ?_
  ·refine AWL.storeBox (i := 0) rfl rfl rfl ag_108 rfl (Es hS (E rfl rfl)) (Es hS (E rfl rfl)) rfl rfl nB ?_
   exact AWL.nil (frA (none, 0) trivial rfl (.refl _))
  trivial
 ·exact fun γ hi => ⟨((γ 4).1, (γ 7).1, (γ 10).1, (γ 13).1, (γ 15).2), trivial, sbZ, rfl⟩
 rintro ⟨A23, A26, A29, A32, b9⟩ _
 refine dn ?_
 refine AW.dropAt 7 ?_
 refine sq (rs (y1 ?_))
 refine nl (bk ?_)
 refine lp1 (fun (j : Nat) => [(0, true, pv s), (2, true, .sl 1 (args.map zw)), (9, true, pv b9), (10, true, zv j)]) (fun (j : Nat) => [.row A23 R R 29 1 ((rJ args R j).map zw), .row A26 R R 4 1 ((sJ R j).map bv), .row A29 K K 29 1 ((List.replicate K 0#64).map zw), .row A32 K K 4 1 ((List.replicate K false).map bv), .box b9 108 (frD ⟨fi, 0, R, K, rJ args R 0, List.replicate K 0#64, sJ R 0, List.replicate K false, d⟩ ⟨A23, A29, A26, A32⟩), .box s 64 (psD x ob (.v (.slice C n c))), .row C n c 108 7 cs]) (fun (j : Nat) => j ≤ args.length) (fun (j : Nat) => args.length - j) 0 ?_ ?_
 ·exact Nat.zero_le _
 intro j hinv
 refine sq (rs (y4 (nl ?_)))
 refine cq (fun _ => ?_) fun _ => ?_
 ·refine sp (sq (bk ?_))
  refine AW.rseqH (HeldCs [(b9, 2, Value.slice A23 R R), (b9, 3, Value.slice A26 R R)]) rfl (tells_cs tcA) ?_
  refine tq 0 ?_
  refine tq 1 ?_
  refine tq 2 ?_
  refine tq 3 ?_
  refine oh 4 ?_
  refine y1 ?_
  refine kh ?_
  refine oh 5 ?_
  refine y1 ?_
  refine kh ?_
  refine oh 6 ?_
  refine y1 ?_
  refine kh ?_
  refine oh 7 ?_
  refine y1 ?_
  refine kh ?_
  refine oh 8 ?_
  refine AWL.storeEp1 (i := 0) rfl rfl rfl ag_29 rfl (E rfl rfl) (E rfl rfl) rfl rfl (by first | (rw [List.length_map, rj_len (by omega) ha]; omega) | (rw [List.length_map, sj_len (by omega)]; omega)) ?_
  refine kh ?_
  refine dn ?_
  refine rg (y4 ?_)
  refine AWL.storeEp1 (i := 1) rfl rfl rfl ag_4 rfl (E rfl rfl) (E rfl rfl) rfl rfl (by first | (rw [List.length_map, sj_len (by omega)]; omega) | (rw [List.length_map, rj_len (by omega) ha]; omega)) ?_
  refine nl (rg (y3 (nl ?_)))
  refine ⟨j + 1, by omega, by omega, sbZ, ?_⟩
  rw [← rj_succ (show j < args.length by omega) ha, ← sj_succ (show j < R by omega)]
  rfl
 obtain rfl : j = args.length := by omega
 refine xt ?_
 refine AW.regionP rfl ?_
 refine tp 0 ?_
 refine tp 1 ?_
 refine tp 2 ?_
 refine tp 3 ?_
 refine wp2 4 5 ?_ ?_
 ·refine y1 (nl ?_)
  refine op 5 ?_
  refine y1 (nl ?_)
  refine op 6 ?_
  refine AWL.buildSliceE rfl rfl (B rfl) rfl el_62 (B rfl) rfl (evsC (E rfl rfl) evs0) nB rfl rfl (nl ?_)
  refine op 7 ?_
  refine AWL.appendRow (i := 6) rfl rfl (B rfl) rfl el_62 (B rfl) rfl (E rfl rfl) (SrcT.sl so_62 (B rfl) (E rfl rfl) rfl) (by unfold maxLen; omega) (by omega) (fun A59 c59 => ?_)
  refine nl ?_
  refine op 8 ?_
  refine y1 (nl ?_)
  refine op 9 ?_
  refine y1 (nl ?_)
  refine op 10 ?_
  refine y1 ?_
  refine AWL.rowSome 6 rfl (Nat.mul_pos (Nat.succ_pos _) (by decide)) (fun g59 hg59 => ?_)
  subst hg59
  refine AWL.dropAt 4 ?_
  refine AWL.perm (S' := [.box s 64 (psD x ob (.v (.slice (sg g59) (n + 1) c59))), .row (sg g59) (n + 1) c59 108 7 (cs ++ frD ⟨fi, 0, R, K, rJ args R args.length, List.replicate K 0#64, sJ R args.length, List.replicate K false, d⟩ ⟨A23, A29, A26, A32⟩), .row A23 R R 29 1 ((rJ args R args.length).map zw), .row A26 R R 4 1 ((sJ R args.length).map bv), .row A29 K K 29 1 ((List.replicate K 0#64).map zw), .row A32 K K 4 1 ((List.replicate K false).map bv)]) (List.perm_append_comm (l₁ := ([.box s 64 (psD x ob (.v (.slice (sg g59) (n + 1) c59))), .row (sg g59) (n + 1) c59 108 7 (cs ++ frD ⟨fi, 0, R, K, rJ args R args.length, List.replicate K 0#64, sJ R args.length, List.replicate K false, d⟩ ⟨A23, A29, A26, A32⟩)] : St)) (l₂ := [.row A23 R R 29 1 ((rJ args R args.length).map zw), .row A26 R R 4 1 ((sJ R args.length).map bv), .row A29 K K 29 1 ((List.replicate K 0#64).map zw), .row A32 K K 4 1 ((List.replicate K false).map bv)])) (nl ?_)
  refine dn ?_
  refine retN .nil ?_
  exact ⟨rfl, g59, c59, ⟨A23, A29, A26, A32⟩, rfl⟩
 refine y1 (nl ?_)
 refine wp2 4 6 ?_ ?_
 ·refine y1 (nl ?_)
  refine op 6 ?_
  refine AWL.buildSliceE rfl rfl (B rfl) rfl el_62 (B rfl) rfl (evsC (E rfl rfl) evs0) nB rfl rfl (nl ?_)
  refine op 7 ?_
  refine AWL.appendRow (i := 6) rfl rfl (B rfl) rfl el_62 (B rfl) rfl (E rfl rfl) (SrcT.sl so_62 (B rfl) (E rfl rfl) rfl) (by unfold maxLen; omega) (by omega) (fun A59 c59 => ?_)
  refine nl ?_
  refine op 8 ?_
  refine y1 (nl ?_)
  refine op 9 ?_
  refine y1 (nl ?_)
  refine op 10 ?_
  refine y1 ?_
  refine AWL.rowSome 6 rfl (Nat.mul_pos (Nat.succ_pos _) (by decide)) (fun g59 hg59 => ?_)
  subst hg59
  refine AWL.dropAt 4 ?_
  refine AWL.perm (S' := [.box s 64 (psD x ob (.v (.slice (sg g59) (n + 1) c59))), .row (sg g59) (n + 1) c59 108 7 (cs ++ frD ⟨fi, 0, R, K, rJ args R args.length, List.replicate K 0#64, sJ R args.length, List.replicate K false, d⟩ ⟨A23, A29, A26, A32⟩), .row A23 R R 29 1 ((rJ args R args.length).map zw), .row A26 R R 4 1 ((sJ R args.length).map bv), .row A29 K K 29 1 ((List.replicate K 0#64).map zw), .row A32 K K 4 1 ((List.replicate K false).map bv)]) (List.perm_append_comm (l₁ := ([.box s 64 (psD x ob (.v (.slice (sg g59) (n + 1) c59))), .row (sg g59) (n + 1) c59 108 7 (cs ++ frD ⟨fi, 0, R, K, rJ args R args.length, List.replicate K 0#64, sJ R args.length, List.replicate K false, d⟩ ⟨A23, A29, A26, A32⟩)] : St)) (l₂ := [.row A23 R R 29 1 ((rJ args R args.length).map zw), .row A26 R R 4 1 ((sJ R args.length).map bv), .row A29 K K 29 1 ((List.replicate K 0#64).map zw), .row A32 K K 4 1 ((List.replicate K false).map bv)])) (nl ?_)
  refine dn ?_
  refine retN .nil ?_
  exact ⟨rfl, g59, c59, ⟨A23, A29, A26, A32⟩, rfl⟩
 refine AWL.buildSliceE rfl rfl (B rfl) rfl el_62 (B rfl) rfl (evsC (E rfl rfl) evs0) nB rfl rfl (nl ?_)
 refine op 4 ?_
 refine y1 (nl ?_)
 refine op 7 ?_
 refine AWL.appendRow (i := 6) rfl rfl (B rfl) rfl el_62 (B rfl) rfl (E rfl rfl) (SrcT.sl so_62 (B rfl) (E rfl rfl) rfl) (by unfold maxLen; omega) (by omega) (fun A59 c59 => ?_)
 refine nl ?_
 refine op 8 ?_
 refine y1 (nl ?_)
 refine op 9 ?_
 refine y1 (nl ?_)
 refine op 10 ?_
 refine y1 ?_
 refine AWL.rowSome 6 rfl (Nat.mul_pos (Nat.succ_pos _) (by decide)) (fun g59 hg59 => ?_)
 subst hg59
 refine AWL.dropAt 4 ?_
 refine AWL.perm (S' := [.box s 64 (psD x ob (.v (.slice (sg g59) (n + 1) c59))), .row (sg g59) (n + 1) c59 108 7 (cs ++ frD ⟨fi, 0, R, K, rJ args R args.length, List.replicate K 0#64, sJ R args.length, List.replicate K false, d⟩ ⟨A23, A29, A26, A32⟩), .row A23 R R 29 1 ((rJ args R args.length).map zw), .row A26 R R 4 1 ((sJ R args.length).map bv), .row A29 K K 29 1 ((List.replicate K 0#64).map zw), .row A32 K K 4 1 ((List.replicate K false).map bv)]) (List.perm_append_comm (l₁ := ([.box s 64 (psD x ob (.v (.slice (sg g59) (n + 1) c59))), .row (sg g59) (n + 1) c59 108 7 (cs ++ frD ⟨fi, 0, R, K, rJ args R args.length, List.replicate K 0#64, sJ R args.length, List.replicate K false, d⟩ ⟨A23, A29, A26, A32⟩)] : St)) (l₂ := [.row A23 R R 29 1 ((rJ args R args.length).map zw), .row A26 R R 4 1 ((sJ R args.length).map bv), .row A29 K K 29 1 ((List.replicate K 0#64).map zw), .row A32 K K 4 1 ((List.replicate K false).map bv)])) (nl ?_)
 refine dn ?_
 refine retN .nil ?_
 exact ⟨rfl, g59, c59, ⟨A23, A29, A26, A32⟩, rfl⟩

theorem Dopen43 (s : Nat) (x : PS) (ob : Bool) (fi : Nat) (args : List Wd64) (d : Int) (C : Option Addr) (n c : Nat) (cs : List T) (hf : fi < x.prog.funs.length) (hpf : x.prog.funs.length ≤ 1048576) (h0 : 0 ≤ (x.prog.funs.getD fi default).regs) (h1 : (x.prog.funs.getD fi default).regs ≤ 65536) (k0 : 0 ≤ (x.prog.funs.getD fi default).slots) (k1 : (x.prog.funs.getD fi default).slots ≤ 1048576) (ha : (args.length : Int) ≤ (x.prog.funs.getD fi default).regs) (hn : n ≤ 1048576) :
    ACalls Tryz.prog 43 [pv s, .v (.int .i64 (fi : Int)), .sl 1 (args.map zw), zi d] [.box s 64 (psD x ob (.v (.slice C n c))), .row C n c 108 7 cs] (fun t S => t = .tup [] ∧ ∃ g c' a, S = [.box s 64 (psD x ob (.v (.slice (sg g) (n + 1) c'))), .row (sg g) (n + 1) c' 108 7 (cs ++ frD (openFr (x.prog.funs.getD fi default) fi args d) a)] ++ frE (openFr (x.prog.funs.getD fi default) fi args d) a) :=
 Dopen43_ s x ob fi args d C n c cs _ _ hf hpf (by omega) (by omega) (by omega) (by omega) (by omega) hn

theorem mod256 (v : Wd64) : v % 256#64 = v &&& 255#64 := by
 apply BitVec.eq_of_toNat_eq
 rw [BitVec.toNat_umod, BitVec.toNat_and]
 show v.toNat % 2 ^ 8 = v.toNat &&& (2 ^ 8 - 1)
 exact (Nat.and_two_pow_sub_one_eq_mod _ _).symm
theorem mod64 (v : Wd64) : v % 64#64 = v &&& 63#64 := by
 apply BitVec.eq_of_toNat_eq
 rw [BitVec.toNat_umod, BitVec.toNat_and]
 show v.toNat % 2 ^ 6 = v.toNat &&& (2 ^ 6 - 1)
 exact (Nat.and_two_pow_sub_one_eq_mod _ _).symm
theorem DbackOne (s g c : Nat) (ps : PS) (ob : Bool) (x : Fr) (a : FA) (v : Wd64) :
    ACalls Tryz.prog 70 [pv s, zw v] ([Ent.box s 64 (psD ps ob (.v (.slice (sg g) 1 c))), Ent.row (sg g) 1 c 108 7 (frD x a)]) (fun t S => t = .tup [] ∧ S = [Ent.box s 64 (psD (backP ps v) ob (.v (.slice (sg g) 1 c))), Ent.row (sg g) 1 c 108 7 (frD x a)]) := by
 refine ai Tryz.func70 Tryz.ntmps70 fun X w0 => ?_
 refine rs (y6 ?_)
 refine nl (rs (y6 ?_))
 refine Y1 (ix (j := 0) (hj := fun hg => ⟨rfl, by omega⟩)) ?_
 refine y1 ?_
 refine Y1 (Yv.loadEp rfl ag_3 (i := 1) rfl eV (fun _ => rfl)) ?_
 refine y1 ?_
 refine nl (sq (rs (y2 (nl ?_))))
 refine cf fun _ => ?_
 refine sp (sq (rs (y4 (nl ?_))))
 refine cq (fun h1t => ?_) fun h1f => ?_
 ·refine rs (y4 ?_)
  refine nl (rs (y5 (nl ?_)))
  refine AW.ret (retI .nil ?_)
  refine ⟨rfl, ?_⟩
  rw [backP, if_pos h1t]
  rfl
 refine sp (rs (y4 ?_))
 refine nl (rg (y2 ?_))
 refine Y1 (Yv.remW (b := 256#64) rfl (E rfl rfl) (E rfl rfl) (by decide)) ?_
 refine Y1 (Yv.conv rfl Tryz.underlying29 kd_3 eV) ?_
 refine y3 (nl ?_)
 refine retN .nil ?_
 refine ⟨rfl, ?_⟩
 rw [backP, if_neg (by rw [h1f]; decide), ← mod256]
 rfl

theorem DbackMore (s g c k : Nat) (ps : PS) (ob : Bool) (pre : List T) (y : Fr) (b : FA) (x : Fr) (a : FA) (v : Wd64) (hpre : pre.length = k * 7) (hk : k ≤ 1048576) (hy : FrOk y) (hd : 0 ≤ x.d ∧ x.d < (y.nr : Int)) :
    ACalls Tryz.prog 70 [pv s, zw v] ([Ent.box s 64 (psD ps ob (.v (.slice (sg g) (k + 2) c))), Ent.row (sg g) (k + 2) c 108 7 (pre ++ frD y b ++ frD x a)] ++ frE y b) (fun t S => t = .tup [] ∧ S = [Ent.box s 64 (psD ps ob (.v (.slice (sg g) (k + 1) c))), Ent.row (sg g) (k + 1) c 108 7 (pre ++ frD y b)] ++ frE (setD y x.d v) b) := by
 have hl1 := hy.r
 have hl2 := hy.t
 obtain ⟨hd0, hd1⟩ := hd
 refine ai Tryz.func70 Tryz.ntmps70 fun X w0 => ?_
 refine rs (y6 ?_)
 refine nl (rs (y6 ?_))
 refine Y1 (ix (j := (k + 1)) (hj := fun hg => ⟨by omega, by omega⟩)) ?_
 refine y1 ?_
 refine Y1 (lw (hr := fun hg => (top6D hpre))) ?_
 refine y1 ?_
 refine nl (sq (rs (y2 (nl ?_))))
 refine ct fun _ => ?_
 refine AW.rowLe 1 rfl (fun hkc => ?_)
 refine rs (y7 ?_)
 refine Y1 (Yv.sliceRow0 (i := 1) (m := k + 1) rfl ss_62 rfl eV (Bound.some_ eV (fun hg => by omega)) (fun hg => by omega)) ?_
 refine y3 (nl ?_)
 refine AW.shrink 1 (k + 1) rfl (by omega) ?_
 refine AW.eqS (S' := [Ent.box s 64 (psD ps ob (.v (.slice (sg g) (k + 1) c))), Ent.row (sg g) (k + 1) c 108 7 (pre ++ frD y b)] ++ frE y b) (by
  rw [take_topD hpre]
  rfl) ?_
 refine rs (y6 ?_)
 refine Y1 (ix (j := k) (hj := fun hg => ⟨by omega, by omega⟩)) ?_
 refine y1 ?_
 refine Y1 (lw (hr := fun hg => (hpre ▸ fd2))) ?_
 refine y4 ?_
 refine nl (rs (y6 ?_))
 refine Y1 (ix (j := k) (hj := fun hg => ⟨by omega, by omega⟩)) ?_
 refine y1 ?_
 refine Y1 (lw (hr := fun hg => (hpre ▸ fd3))) ?_
 refine y3 (nl ?_)
 refine AW.ret (retI .nil ?_)
 refine ⟨rfl, ?_⟩
 rw [setE_rows]
 rfl


theorem Dvalue72 (s g n c : Nat) (ps : PS) (ob : Bool) (pre : List T) (x : Fr) (a : FA) (i : Ins) (hx : FrOk x) (hk : valK i.kind) (ha : (hasF i.kind).a = true → 0 ≤ i.a ∧ i.a < (x.nr : Int)) (hb : (hasF i.kind).b = true → 0 ≤ i.b ∧ i.b < (x.nr : Int)) (hs : i.kind = 31 → 0 ≤ i.imm ∧ i.imm < (x.ns : Int)) (hre : i.kind = 16 → 1 ≤ i.real ∧ i.real ≤ 8) :
    ACalls Tryz.prog 72 [pv s, .ep (.slice (sg g) n c) pre.length, .agg (insCells i)] ([Ent.box s 64 (psD ps ob (.v (.slice (sg g) n c))), Ent.row (sg g) n c 108 7 (pre ++ frD x a)] ++ frE x a) (fun t S => t = .tup [zw (valueF realF ps.heap x i).1, bv (valueF realF ps.heap x i).2] ∧ S = [Ent.box s 64 (psD ps ob (.v (.slice (sg g) n c))), Ent.row (sg g) n c 108 7 (pre ++ frD x a)] ++ frE x a) := by
 refine lsr (R := (fun t S => t = .tup [zw (valueF realF ps.heap x i).1, bv (valueF realF ps.heap x i).2] ∧ ([Ent.box s 64 (psD ps ob (.v (.slice (sg g) n c))), Ent.row (sg g) n c 108 7 (pre ++ frD x a)] ++ frE x a).Sublist S)) (fun t S' ⟨h1, h2⟩ => ⟨_, h2, h1, rfl⟩) ?_
 have hl1 := hx.r
 have hl2 := hx.s
 have hl3 := hx.t
 have hl4 := hx.h
 unfold valK at hk
 refine ai Tryz.func72 Tryz.ntmps72 fun X w0 => ?_
 refine rs ?_
 refine bx fun b5 => ?_
 refine y2 ?_
 refine nl (sq (rs (y2 ?_)))
 refine nl (bk (rs (y2 (nl ?_))))
 refine cq (fun _ => ?_) fun _ => ?_
 ·refine rs (y2 ?_)
  refine Y1 (Yv.convW rfl Tryz.underlying2 kd_29 eV) ?_
  refine y2 (nl ?_)
  refine rt ?_
  rw [valueF, if_pos (by omega)]
  exact ⟨rfl, List.sublist_append_left _ _⟩
 refine rs (y2 (nl ?_))
 refine cq (fun _ => ?_) fun _ => ?_
 ·refine rs (y2 ?_)
  refine Y1 (Yv.convW rfl Tryz.underlying2 kd_29 eV) ?_
  refine Y1 (Yv.addW (a := 268435456#64) rfl eV eV) ?_
  refine y2 (nl ?_)
  refine rt ?_
  rw [valueF, if_neg (by omega), if_pos (by omega)]
  exact ⟨rfl, List.sublist_append_left _ _⟩
 refine rs (y2 (nl ?_))
 refine cq (fun _ => ?_) fun _ => ?_
 ·refine rs (y2 ?_)
  refine Y1 (Yv.convW rfl Tryz.underlying3 kd_29 eV) ?_
  refine Y1 (Yv.mulW (a := 16#64) rfl eV eV) ?_
  refine Y1 (Yv.addW (a := 4194304#64) rfl eV eV) ?_
  refine y2 (nl ?_)
  refine rt ?_
  rewrite [valueF]
  repeat rewrite [if_neg (by omega)]
  rw [if_pos (by omega)]
  exact ⟨rfl, List.sublist_append_left _ _⟩
 refine rs (y2 (nl ?_))
 refine cq (fun _ => ?_) fun _ => ?_
 ·refine rs (y6 (nl ?_))
  refine rt ?_
  rewrite [valueF]
  repeat rewrite [if_neg (by omega)]
  rw [if_pos (by omega)]
  exact ⟨rfl, List.sublist_append_left _ _⟩
 refine rs (y2 (nl ?_))
 refine cq (fun _ => ?_) fun _ => ?_
 ·obtain ⟨hs0, hs1⟩ := hs (by omega)
  refine rq (q18 (nq ?_))
  refine rt ?_
  rewrite [valueF]
  repeat rewrite [if_neg (by omega)]
  rw [if_pos (by omega)]
  exact ⟨rfl, List.sublist_append_left _ _⟩
 refine sp ?_
 obtain ⟨ha0, ha1⟩ := ha (by
  by_cases h2 : i.kind = 2
  ·rw [h2]; rfl
  ·exact (has_ab (k := i.kind) (by omega) (by omega)).1)
 refine rq (q9 ?_)
 refine nq (sq (rs (y3 (nl ?_))))
 refine cq (fun _ => ?_) fun _ => ?_
 ·refine rs (y3 (nl ?_))
  refine rt ?_
  rewrite [valueF]
  repeat rewrite [if_neg (by omega)]
  rw [if_pos (by omega)]
  exact ⟨rfl, List.sublist_append_left _ _⟩
 refine sp (sq (rs (y3 (nl ?_))))
 refine cf fun _ => ?_
 refine sp ?_
 obtain ⟨hb0, hb1⟩ := hb (has_ab (k := i.kind) (by omega) (by omega)).2
 refine rq (q9 ?_)
 refine nq (rs (y1 ?_))
 refine Y1 (Yv.eqT (Yv.remW (b := 64#64) rfl (E rfl rfl) (E rfl rfl) (by decide)) (congrArg zw (mod64 _))) ?_
 refine y1 ?_
 refine nl (sq (rs (y2 ?_)))
 refine nl (bk (rs (y2 (nl ?_))))
 refine cq (fun _ => ?_) fun _ => ?_
 ·refine rs (y2 ?_)
  refine Y1 (Yv.addW rfl eV eV) ?_
  refine y2 (nl ?_)
  refine rt ?_
  rewrite [valueF]
  repeat rewrite [if_neg (by omega)]
  rw [if_pos (by omega)]
  exact ⟨rfl, List.sublist_append_left _ _⟩
 refine rs (y2 (nl ?_))
 refine cq (fun _ => ?_) fun _ => ?_
 ·refine rs (y2 ?_)
  refine Y1 (Yv.subW rfl eV eV) ?_
  refine y2 (nl ?_)
  refine rt ?_
  rewrite [valueF]
  repeat rewrite [if_neg (by omega)]
  rw [if_pos (by omega)]
  exact ⟨rfl, List.sublist_append_left _ _⟩
 refine rs (y2 (nl ?_))
 refine cq (fun _ => ?_) fun _ => ?_
 ·refine rs (y2 ?_)
  refine Y1 (Yv.mulW rfl eV eV) ?_
  refine y2 (nl ?_)
  refine rt ?_
  rewrite [valueF]
  repeat rewrite [if_neg (by omega)]
  rw [if_pos (by omega)]
  exact ⟨rfl, List.sublist_append_left _ _⟩
 refine rs (y2 (nl ?_))
 refine cq (fun _ => ?_) fun _ => ?_
 ·refine rs (y2 ?_)
  refine kt (DWide94 (rA x i.a) (rA x i.b)) ?_
  rintro t115 S115 rfl
  refine y5 ?_
  refine nl (rs (y3 (nl ?_)))
  refine rt ?_
  rewrite [valueF]
  repeat rewrite [if_neg (by omega)]
  rw [if_pos (by omega)]
  exact ⟨rfl, List.sublist_append_left _ _⟩
 refine rs (y2 (nl ?_))
 refine cq (fun _ => ?_) fun _ => ?_
 ·refine sq (rs (y1 ?_))
  refine Y1 (Yv.eqlW (b := 0#64) rfl eV eV) (nl ?_)
  refine cq (fun _ => ?_) fun _ => ?_
  ·refine rs (y2 (nl ?_))
   refine rt ?_
   rw [valueF, if_neg (by omega), if_neg (by omega), if_neg (by omega), if_neg (by omega), if_neg (by omega), if_neg (by omega), if_neg (by omega), if_neg (by omega), if_neg (by omega), if_neg (by omega), if_neg (by omega), if_neg (by omega), if_neg (by omega), if_neg (by omega), if_neg (by omega), if_neg (by omega), if_neg (by omega), if_neg (by omega)]
   rw [if_pos (by assumption)]
   exact ⟨rfl, List.sublist_append_left _ _⟩
  refine sp (rs (y2 ?_))
  refine Y1 (Yv.quoW rfl eV eV (by assumption)) ?_
  refine y2 (nl ?_)
  refine rt ?_
  rw [valueF, if_neg (by omega), if_neg (by omega), if_neg (by omega), if_neg (by omega), if_neg (by omega), if_neg (by omega), if_neg (by omega), if_neg (by omega), if_neg (by omega), if_neg (by omega), if_neg (by omega), if_neg (by omega), if_neg (by omega), if_neg (by omega), if_neg (by omega), if_neg (by omega), if_neg (by omega), if_neg (by omega)]
  rw [if_neg (by assumption), if_pos (by omega)]
  exact ⟨rfl, List.sublist_append_left _ _⟩
 refine rs (y2 (nl ?_))
 refine cq (fun _ => ?_) fun _ => ?_
 ·refine sq (rs (y1 ?_))
  refine Y1 (Yv.eqlW (b := 0#64) rfl eV eV) (nl ?_)
  refine cq (fun _ => ?_) fun _ => ?_
  ·refine rs (y2 (nl ?_))
   refine rt ?_
   rw [valueF, if_neg (by omega), if_neg (by omega), if_neg (by omega), if_neg (by omega), if_neg (by omega), if_neg (by omega), if_neg (by omega), if_neg (by omega), if_neg (by omega), if_neg (by omega), if_neg (by omega), if_neg (by omega), if_neg (by omega), if_neg (by omega), if_neg (by omega), if_neg (by omega), if_neg (by omega), if_neg (by omega)]
   rw [if_pos (by assumption)]
   exact ⟨rfl, List.sublist_append_left _ _⟩
  refine sp (rs (y2 ?_))
  refine Y1 (Yv.remW rfl eV eV (by assumption)) ?_
  refine y2 (nl ?_)
  refine rt ?_
  rw [valueF, if_neg (by omega), if_neg (by omega), if_neg (by omega), if_neg (by omega), if_neg (by omega), if_neg (by omega), if_neg (by omega), if_neg (by omega), if_neg (by omega), if_neg (by omega), if_neg (by omega), if_neg (by omega), if_neg (by omega), if_neg (by omega), if_neg (by omega), if_neg (by omega), if_neg (by omega), if_neg (by omega)]
  rw [if_neg (by assumption), if_neg (by omega)]
  exact ⟨rfl, List.sublist_append_left _ _⟩
 refine rs (y2 (nl ?_))
 refine cq (fun _ => ?_) fun _ => ?_
 ·refine rs (y2 ?_)
  refine Y1 (Yv.andW rfl eV eV) ?_
  refine y2 (nl ?_)
  refine rt ?_
  rewrite [valueF]
  repeat rewrite [if_neg (by omega)]
  rw [if_pos (by omega)]
  exact ⟨rfl, List.sublist_append_left _ _⟩
 refine rs (y2 (nl ?_))
 refine cq (fun _ => ?_) fun _ => ?_
 ·refine rs (y2 ?_)
  refine Y1 (Yv.orW rfl eV eV) ?_
  refine y2 (nl ?_)
  refine rt ?_
  rewrite [valueF]
  repeat rewrite [if_neg (by omega)]
  rw [if_pos (by omega)]
  exact ⟨rfl, List.sublist_append_left _ _⟩
 refine rs (y2 (nl ?_))
 refine cq (fun _ => ?_) fun _ => ?_
 ·refine rs (y2 ?_)
  refine Y1 (Yv.xorW rfl eV eV) ?_
  refine y2 (nl ?_)
  refine rt ?_
  rewrite [valueF]
  repeat rewrite [if_neg (by omega)]
  rw [if_pos (by omega)]
  exact ⟨rfl, List.sublist_append_left _ _⟩
 refine rs (y2 (nl ?_))
 refine cq (fun _ => ?_) fun _ => ?_
 ·refine rs (y2 ?_)
  refine Y1 (Yv.shlW rfl eV eV (lt63 _)) ?_
  refine y2 (nl ?_)
  refine rt ?_
  rewrite [valueF]
  repeat rewrite [if_neg (by omega)]
  rw [if_pos (by omega)]
  exact ⟨rfl, List.sublist_append_left _ _⟩
 refine rs (y2 (nl ?_))
 refine cq (fun _ => ?_) fun _ => ?_
 ·refine rs (y2 ?_)
  refine Y1 (Yv.shrW rfl eV eV (lt63 _)) ?_
  refine y2 (nl ?_)
  refine rt ?_
  rewrite [valueF]
  repeat rewrite [if_neg (by omega)]
  rw [if_pos (by omega)]
  exact ⟨rfl, List.sublist_append_left _ _⟩
 refine rs (y2 (nl ?_))
 refine cq (fun _ => ?_) fun _ => ?_
 ·refine rs (y1 ?_)
  refine Y1 (Yv.conv rfl Tryz.underlying29 kd_2 eV) ?_
  refine y1 ?_
  refine Y1 (Yv.shr (p := sI (rA x i.a)) rfl eV eV (fun _ => Int.natCast_nonneg _)) ?_
  refine Y1 (Yv.convW rfl Tryz.underlying2 kd_29 eV) ?_
  refine y2 (nl ?_)
  refine rt ?_
  rewrite [valueF]
  repeat rewrite [if_neg (by omega)]
  rw [if_pos (by omega)]
  exact ⟨rfl, List.sublist_append_left _ _⟩
 refine rs (y2 (nl ?_))
 refine cq (fun _ => ?_) fun _ => ?_
 ·refine rs (y4 ?_)
  refine kt (DHolds68 i.cond (rA x i.a) (rA x i.b)) ?_
  rintro t171 S171 rfl
  refine kt (Dnumber95 (holdsF i.cond (rA x i.a) (rA x i.b))) ?_
  rintro t172 S172 rfl
  refine y2 (nl ?_)
  refine rt ?_
  rewrite [valueF]
  repeat rewrite [if_neg (by omega)]
  rw [if_pos (by omega)]
  exact ⟨rfl, List.sublist_append_left _ _⟩
 refine sp (rs (y4 ?_))
 refine kt (DReal96 i.real (rA x i.a) (rA x i.b) (hre (by omega)).1 (hre (by omega)).2) ?_
 rintro t177 S177 rfl
 refine y2 (nl ?_)
 refine rt ?_
 rewrite [valueF]
 repeat rewrite [if_neg (by omega)]
 rw [if_pos (by omega)]
 exact ⟨rfl, List.sublist_append_left _ _⟩


theorem to_int {p : Prog} {x : Fr} {i : Ins} (hpf : p.funs.length ≤ 1048576) (h : (toN x i).toNat < p.funs.length) : T.v (.int .i64 (IntKind.i64.wrap ((((rA x i.a - 4194304#64) / 16#64).toNat : Nat) : Int))) = zi ((toN x i).toNat : Int) := by
 show zi (IntKind.i64.wrap (((toN x i).toNat : Nat) : Int)) = _
 rw [IntWalk.i64_in _ (by omega)]
theorem take_preD {pre : List T} {x : Fr} {a : FA} {k : Nat} (h : pre.length = k * 7) : (pre ++ frD x a).take (k * 7) = pre := by rw [List.take_left' h]
theorem callE_rows (s : Bool) (x : Fr) (a : FA) : frE (callF s x) a = [.row a.r x.nr x.nr 29 1 (x.r.map zw), .row a.t x.nr x.nr 4 1 ((if s = true then List.replicate x.nr false else x.set).map bv), .row a.s x.ns x.ns 29 1 (x.slot.map zw), .row a.h x.ns x.ns 4 1 (x.there.map bv)] := rfl
theorem bad_t {p : Prog} {x : Fr} {i : Ins} (h : ((decide (rA x i.a < 4194304#64) || !decide ((rA x i.a - 4194304#64) % 16#64 = 0#64)) || decide (wI (p.funs.length : Int) ≤ (rA x i.a - 4194304#64) / 16#64)) = true) : badTo p x i = true := by
 have h' : ((decide (rA x i.a < 4194304#64) || !decide ((rA x i.a - 4194304#64) % 16#64 = 0#64)) || decide (wI (p.funs.length : Int) ≤ toN x i)) = true := h
 unfold badTo
 rw [h']; rfl
theorem bad_p {p : Prog} {x : Fr} {i : Ins} (h : (!decide ((p.funs.getD (toN x i).toNat default).params = (i.args.length : Int))) = true) : badTo p x i = true := by
 unfold badTo
 rw [h, Bool.or_true]
theorem bad_n {p : Prog} {x : Fr} {i : Ins} (h : ((decide (rA x i.a < 4194304#64) || !decide ((rA x i.a - 4194304#64) % 16#64 = 0#64)) || decide (wI (p.funs.length : Int) ≤ (rA x i.a - 4194304#64) / 16#64)) = false) (h2 : (!decide ((p.funs.getD (toN x i).toNat default).params = (i.args.length : Int))) = false) : badTo p x i = false := by
 have h' : ((decide (rA x i.a < 4194304#64) || !decide ((rA x i.a - 4194304#64) % 16#64 = 0#64)) || decide (wI (p.funs.length : Int) ≤ toN x i)) = false := h
 unfold badTo
 rw [h', h2]; rfl
theorem clr_succ {l : List Bool} {j : Nat} (h : j < l.length) : (List.replicate (j + 1) false ++ l.drop (j + 1)).map bv = ((List.replicate j false ++ l.drop j).map bv).set (j * 1) (bv false) := by
 rw [Nat.mul_one, ← List.map_set, List.set_append_right _ _ (by rw [List.length_replicate]; exact Nat.le_refl _), List.length_replicate, Nat.sub_self, List.drop_eq_getElem_cons h, List.set_cons_zero, List.replicate_succ', List.append_assoc]
 rfl
theorem Dgoes71_ (s g c k : Nat) (ps : PS) (ob : Bool) (pre : List T) (x : Fr) (a : FA) (i : Ins) (hx : FrOk x) (hnr : x.nr ≤ 65536) (hpre : pre.length = k * 7) (hk : k < 1048576) (hkd : i.kind = 22 ∨ i.kind = 23 ∨ i.kind = 24 ∨ i.kind = 25) (hp : ProgOk ps.prog) (hpf : ps.prog.funs.length ≤ 1048576) (ha : (hasF i.kind).a = true → 0 ≤ i.a ∧ i.a < (x.nr : Int)) (har : ∀ r ∈ i.args, 0 ≤ r ∧ r < (x.nr : Int)) (hg : i.args.length ≤ 1048576) (hf : (hasF i.kind).f = true → (0 ≤ i.f ∧ i.f.toNat < ps.prog.funs.length) ∧ (i.args.length : Int) = parF ps.prog i.f) (hat : 0 ≤ x.at_ ∧ x.at_ ≤ 4611686018427387904) :
    ACalls Tryz.prog 71 [pv s, .ep (.slice (sg g) (k + 1) c) pre.length, .agg (insCells i)] ([Ent.box s 64 (psD ps ob (.v (.slice (sg g) (k + 1) c))), Ent.row (sg g) (k + 1) c 108 7 (pre ++ frD x a)] ++ frE x a) (fun t S => match calleeF ps.prog x i with
    | none => t = bv false ∧ ([Ent.box s 64 (psD ps ob (.v (.slice (sg g) (k + 1) c))), Ent.row (sg g) (k + 1) c 108 7 (pre ++ frD x a)] ++ frE x a).Sublist S
    | some f => if i.kind = 24 ∨ i.kind = 25 then t = bv true ∧ ∃ g' c' a', ([Ent.box s 64 (psD ps ob (.v (.slice (some ⟨g', 0, none⟩) (k + 1) c'))), Ent.row (some ⟨g', 0, none⟩) (k + 1) c' 108 7 (pre ++ frD (openFr (ps.prog.funs.getD f default) f (argsF x i) x.d) a')] ++ frE (openFr (ps.prog.funs.getD f default) f (argsF x i) x.d) a').Sublist S
     else if 1048576 ≤ k + 1 then t = bv false ∧ ([Ent.box s 64 (psD ps ob (.v (.slice (sg g) (k + 1) c))), Ent.row (sg g) (k + 1) c 108 7 (pre ++ frD x a)] ++ frE x a).Sublist S
     else t = bv true ∧ ∃ g' c' a', ([Ent.box s 64 (psD ps ob (.v (.slice (some ⟨g', 0, none⟩) (k + 2) c'))), Ent.row (some ⟨g', 0, none⟩) (k + 2) c' 108 7 (pre ++ frD (callF ps.strict x) a ++ frD (openFr (ps.prog.funs.getD f default) f (argsF x i) i.d) a')] ++ frE (openFr (ps.prog.funs.getD f default) f (argsF x i) i.d) a' ++ frE (callF ps.strict x) a).Sublist S) := by
 have hl1 := hx.r
 have hl3 := hx.t
 obtain ⟨hat0, hat1⟩ := hat
 refine ai Tryz.func71 Tryz.ntmps71 fun X w0 => ?_
 refine rs ?_
 refine bx fun b5 => ?_
 refine y1 ?_
 refine nl (rs (y3 (nl ?_)))
 refine AW.mid (α := Nat) (fun f => [(0, true, pv s), (1, true, .ep (.slice (sg g) (k + 1) c) pre.length), (5, true, pv b5), (7, true, zv f)]) (fun _ => ([Ent.box s 64 (psD ps ob (.v (.slice (sg g) (k + 1) c))), Ent.row (sg g) (k + 1) c 108 7 (pre ++ frD x a)] ++ frE x a) ++ [Ent.box b5 90 (insCells i)]) (fun f => calleeF ps.prog x i = some f) ?_ ?_
 ·refine rs (y8 (nl ?_))
  refine cq (fun h0t => ?_) fun h0f => ?_
  ·have hk23 : i.kind = 23 ∨ i.kind = 25 := by simpa using h0t
   obtain ⟨ha0, ha1⟩ := ha (has_a23 hk23)
   refine rq (q9 ?_)
   refine nq (sq (rs (y1 ?_)))
   refine Y1 (Yv.lssW (b := 4194304#64) rfl eV eV) ?_
   refine y2 ?_
   refine gF (Yv.subW (b := 4194304#64) rfl (Eg rfl rfl id) eV) ?_
   refine gF (Yv.remW (b := 16#64) rfl (Eg rfl rfl id) (E rfl rfl) (by decide)) ?_
   refine gF (Yv.neqW (b := 0#64) rfl (Eg rfl rfl id) eV) ?_
   refine y3 ?_
   refine gF (Yv.subW (b := 4194304#64) rfl (Eg rfl rfl id) eV) ?_
   refine gF (Yv.quoW (b := 16#64) rfl (Eg rfl rfl id) (E rfl rfl) (by decide)) ?_
   refine y6 ?_
   refine gF (Yv.convW rfl Tryz.underlying3 kd_29 (Eg rfl rfl id)) ?_
   refine gF (Yv.geqW rfl (Eg rfl rfl id) (Eg rfl rfl id)) ?_
   refine y1 (nl ?_)
   refine cq (fun h1t => ?_) fun h1f => ?_
   ·have hbad : badTo ps.prog x i = true := bad_t h1t
    refine rs (y1 (nl ?_))
    refine rt ?_
    rw [show calleeF ps.prog x i = none by rw [calleeF, if_pos hk23, if_pos hbad]]
    exact ⟨rfl, List.sublist_append_left _ _⟩
   have htl : (toN x i).toNat < ps.prog.funs.length := to_lt' hpf (of_decide_eq_false (Bool.or_eq_false_iff.1 h1f).2)
   refine sp (rs (y1 ?_))
   refine Y1 (Yv.subW (b := 4194304#64) rfl eV eV) ?_
   refine Y1 (Yv.quoW (b := 16#64) rfl (E rfl rfl) (E rfl rfl) (by decide)) ?_
   refine Y1 (Yv.eqT (Yv.conv rfl Tryz.underlying29 kd_3 eV) (to_int hpf htl)) ?_
   refine y1 ?_
   refine nl (rq (q6 ?_))
   refine Q1 (Yv.indexSl (j := (toN x i).toNat) rfl ss_22 (B rfl) eV eV (fun hg => ⟨rfl, by rw [len_funs]; omega⟩)) ?_
   refine q1 ?_
   refine Q1 (Yv.loadRp rfl ag_3 eV (fun hg => fpar_at htl)) ?_
   refine q4 (nq ?_)
   refine cq (fun h2t => ?_) fun h2f => ?_
   ·have hbad : badTo ps.prog x i = true := bad_p h2t
    refine rs (y1 (nl ?_))
    refine rt ?_
    rw [show calleeF ps.prog x i = none by rw [calleeF, if_pos hk23, if_pos hbad]]
    exact ⟨rfl, List.sublist_append_left _ _⟩
   have hgood : badTo ps.prog x i = false := bad_n h1f h2f
   refine sp ?_
   refine ⟨(toN x i).toNat, ?_, sbZ, rfl⟩
   exact callee_23 hk23 hgood
  have hk22 : ¬ (i.kind = 23 ∨ i.kind = 25) := by simpa using h0f
  refine sp ?_
  refine ⟨i.f.toNat, ?_, (su (su (su (Sub.cons rfl (congrArg (fun x => T.v (.int .i64 x)) (Int.toNat_of_nonneg (hf (has_f (by omega))).1.1)) Sub.nil)))), rfl⟩
  exact callee_22 (by omega)
 rintro f hcal
 have hcf := callee_in hp hpf hf hkd hcal
 have hfo := fn_regs hp hcf.1
 refine rs (y1 (nl ?_))
 refine AW.rowNil 29 1 ?_
 refine sq (rs (y1 ?_))
 refine nl (bk ?_)
 refine lp3 (fun (j : Nat) (A : Option Addr) (c2 : Nat) => [(0, true, pv s), (1, true, .ep (.slice (sg g) (k + 1) c) pre.length), (5, true, pv b5), (7, true, zv f), (9, true, .v (.slice A j c2)), (10, true, zv j)]) (fun (j : Nat) (A : Option Addr) (c2 : Nat) => (([Ent.box s 64 (psD ps ob (.v (.slice (sg g) (k + 1) c))), Ent.row (sg g) (k + 1) c 108 7 (pre ++ frD x a)] ++ frE x a) ++ [Ent.box b5 90 (insCells i), Ent.row A j c2 29 1 (((i.args.take j).map (rA x)).map zw)])) (fun (j : Nat) (A : Option Addr) (c2 : Nat) => j ≤ i.args.length) (fun (j : Nat) (A : Option Addr) (c2 : Nat) => i.args.length - j) 0 none 0 ?_ ?_
 ·exact Nat.zero_le _
 intro j A c2 hinv
 refine sq (rs (y5 (nl ?_)))
 refine cq (fun _ => ?_) fun _ => ?_
 ·have hj : j < i.args.length := by omega
  have hjr := har _ (getD_mem (l := i.args) hj)
  refine sp (sq (bk ?_))
  refine AW.regionP rfl ?_
  refine tp 0 ?_
  refine AWP.phase [false, true, true, true, true, true, true, true, true, true, true, true] 3 rfl (by kernel_rfl) (by kernel_rfl) ?_
  refine q11 (nq ?_)
  refine op 12 ?_
  refine AWL.buildSlice1 rfl rfl (B rfl) rfl el_30 rfl (evsC (E rfl rfl) evs0) nB rfl rfl (nl ?_)
  refine op 13 ?_
  refine AWL.appendRow (i := 7) rfl rfl (B rfl) rfl el_30 (B rfl) rfl (E rfl rfl) (SrcT.sl so_30 (B rfl) (E rfl rfl) rfl) (by unfold maxLen; omega) (by omega) (fun A89 c89 => ?_)
  refine nl ?_
  refine op 14 ?_
  refine y1 (nl ?_)
  refine dn ?_
  refine rg (y3 (nl ?_))
  refine ⟨j + 1, A89, c89, by omega, by omega, sbZ, ?_⟩
  rw [take_gd (show j < i.args.length by omega), List.map_append, List.map_append]
  rfl
 obtain rfl : j = i.args.length := by omega
 refine xt (sq (rs (y8 (nl ?_))))
 refine cq (fun h4t => ?_) fun h4f => ?_
 ·have hk24 : i.kind = 24 ∨ i.kind = 25 := by simpa using h4t
  refine rs (y5 (nl ?_))
  refine AW.rowLe 1 rfl (fun hkc => ?_)
  refine AW.rseqP rfl ?_
  refine phn 14 1 ?_
  refine q11 ?_
  refine Q1 (Yv.sliceRow0 (i := 1) (m := k) rfl ss_62 rfl eV (Bound.some_ eV (fun hg => by omega)) (fun hg => by omega)) ?_
  refine q2 (nq ?_)
  refine op 14 ?_
  refine y1 (nl ?_)
  refine dn ?_
  refine AW.shrink 1 k rfl (by omega) ?_
  refine AW.eqS (S' := ([Ent.box s 64 (psD ps ob (.v (.slice (sg g) k c))), Ent.row (sg g) k c 108 7 (pre)] ++ frE x a) ++ [Ent.box b5 90 (insCells i), Ent.row A i.args.length c2 29 1 (((i.args.take i.args.length).map (rA x)).map zw)]) (by
   rw [take_preD hpre]
   rfl) ?_
  rw [List.take_length]
  refine AW.freeze 7 9 rfl (B rfl) rfl ?_
  refine rs (y4 ?_)
  refine kc (Dopen43 s ps ob f (i.args.map (rA x)) x.d (sg g) k c pre hcf.1 hpf hfo.1 hfo.2.1 hfo.2.2.1 hfo.2.2.2 hcf.2 (by omega)) ?_
  rintro t120 S120 ⟨rfl, g2, c3, a2, rfl⟩
  refine nl (rs (y1 (nl ?_)))
  refine rt ?_
  rw [hcal]
  simp only [if_pos hk24]
  exact ⟨rfl, g2, c3, a2, List.sublist_append_left _ _⟩
 have hk24 : ¬ (i.kind = 24 ∨ i.kind = 25) := by simpa using h4f
 refine sp (sq (rs (y6 (nl ?_))))
 refine cq (fun _ => ?_) fun _ => ?_
 ·refine rs (y1 (nl ?_))
  refine rt ?_
  rw [hcal]
  simp only [if_neg hk24]
  rw [if_pos (by omega)]
  exact ⟨rfl, List.sublist_append_left _ _⟩
 refine sp (rs (y8 (nl ?_)))
 refine AW.eqS (S' := ([Ent.box s 64 (psD ps ob (.v (.slice (sg g) (k + 1) c))), Ent.row (sg g) (k + 1) c 108 7 (pre ++ frD (goF x) a)] ++ frE x a) ++ [Ent.box b5 90 (insCells i), Ent.row A i.args.length c2 29 1 (((i.args.take i.args.length).map (rA x)).map zw)]) (by rw [show (pre ++ frD (goF x) a) = (pre ++ frD x a).set (pre.length + 1) (zi (x.at_ + 1)) from (fd_jump _).symm]; rfl) ?_
 refine sq (rs (y4 (nl ?_)))
 refine cq (fun h6t => ?_) fun h6f => ?_
 ·refine rs (y1 ?_)
  refine nl (bk ?_)
  refine lp1 (fun (j : Nat) => [(0, true, pv s), (1, true, .ep (.slice (sg g) (k + 1) c) pre.length), (5, true, pv b5), (7, true, zv f), (9, true, .v (.slice A i.args.length c2)), (12, true, zv j)]) (fun (j : Nat) => ([Ent.box s 64 (psD ps ob (.v (.slice (sg g) (k + 1) c))), Ent.row (sg g) (k + 1) c 108 7 (pre ++ frD (goF x) a)] ++ [.row a.r x.nr x.nr 29 1 (x.r.map zw), .row a.t x.nr x.nr 4 1 ((List.replicate j false ++ x.set.drop j).map bv), .row a.s x.ns x.ns 29 1 (x.slot.map zw), .row a.h x.ns x.ns 4 1 (x.there.map bv)]) ++ [Ent.box b5 90 (insCells i), Ent.row A i.args.length c2 29 1 (((i.args.take i.args.length).map (rA x)).map zw)]) (fun (j : Nat) => j ≤ x.nr) (fun (j : Nat) => x.nr - j) 0 ?_ ?_
  ·exact Nat.zero_le _
  intro j hinv
  refine sq (rs (y7 (nl ?_)))
  refine cq (fun _ => ?_) fun _ => ?_
  ·have e9 : (goF x).nr = x.nr := rfl
   have hjr : j < x.nr := by omega
   refine sp (sq (bk (rg (y5 ?_))))
   refine Y1 (ix (j := j) (hj := fun hg => ⟨rfl, hjr⟩)) ?_
   refine AWL.storeEp1 (i := 3) rfl rfl rfl ag_4 rfl (E rfl rfl) (E rfl rfl) rfl rfl (by rw [List.length_map, List.length_append, List.length_replicate, List.length_drop]; omega) ?_
   refine nl (rg (y3 (nl ?_)))
   refine ⟨j + 1, by omega, by omega, sbZ, ?_⟩
   rw [clr_succ (show j < x.set.length by omega)]
   rfl
  have e9 : (goF x).nr = x.nr := rfl
  obtain rfl : j = x.nr := by omega
  refine AW.eqS (S' := ([Ent.box s 64 (psD ps ob (.v (.slice (sg g) (k + 1) c))), Ent.row (sg g) (k + 1) c 108 7 (pre ++ frD (callF ps.strict x) a)] ++ frE (callF ps.strict x) a) ++ [Ent.box b5 90 (insCells i), Ent.row A i.args.length c2 29 1 (((i.args.take i.args.length).map (rA x)).map zw)]) (by
   rw [callE_rows, if_pos h6t, List.drop_of_length_le (by omega), List.append_nil]
   rfl) ?_
  rw [List.take_length]
  refine AW.freeze 7 9 rfl (B rfl) rfl ?_
  refine xt (rs (y5 ?_))
  refine kc (Dopen43 s ps ob f (i.args.map (rA x)) i.d (sg g) (k + 1) c (pre ++ frD (callF ps.strict x) a) hcf.1 hpf hfo.1 hfo.2.1 hfo.2.2.1 hfo.2.2.2 hcf.2 (by omega)) ?_
  rintro t158 S158 ⟨rfl, g2, c3, a2, rfl⟩
  refine nl (rs (y1 (nl ?_)))
  refine rt ?_
  rw [hcal]
  simp only [if_neg hk24]
  rw [if_neg (by omega)]
  refine ⟨rfl, g2, c3, a2, ?_⟩
  exact call_sub
 refine AW.eqS (S' := ([Ent.box s 64 (psD ps ob (.v (.slice (sg g) (k + 1) c))), Ent.row (sg g) (k + 1) c 108 7 (pre ++ frD (callF ps.strict x) a)] ++ frE (callF ps.strict x) a) ++ [Ent.box b5 90 (insCells i), Ent.row A i.args.length c2 29 1 (((i.args.take i.args.length).map (rA x)).map zw)]) (by
  rw [callE_rows, if_neg (by rw [h6f]; decide)]
  rfl) ?_
 rw [List.take_length]
 refine AW.freeze 7 9 rfl (B rfl) rfl ?_
 refine sp (rs (y5 ?_))
 refine kc (Dopen43 s ps ob f (i.args.map (rA x)) i.d (sg g) (k + 1) c (pre ++ frD (callF ps.strict x) a) hcf.1 hpf hfo.1 hfo.2.1 hfo.2.2.1 hfo.2.2.2 hcf.2 (by omega)) ?_
 rintro t158 S158 ⟨rfl, g2, c3, a2, rfl⟩
 refine nl (rs (y1 (nl ?_)))
 refine rt ?_
 rw [hcal]
 simp only [if_neg hk24]
 rw [if_neg (by omega)]
 refine ⟨rfl, g2, c3, a2, ?_⟩
 exact call_sub

theorem side_pb {n : Nat} {r d : V.PW} (h : V.Side r d) (hr : V.PB n r) : V.PB n d :=
 ⟨by rw [h.opn]; exact hr.opn, by rw [h.trace]; exact hr.tr, by rw [h.trace]; exact hr.txt, fun f hf => hr.fl f (h.files.mem_iff.2 hf), by rw [h.opn]; exact hr.pl, by rw [h.stdin]; exact hr.sin, by rw [← h.files.length_eq]; exact hr.nf⟩
theorem side_nm {r d : V.PW} (h : V.Side r d) (hr : V.Named r) : V.Named d := by
 refine ⟨by rw [h.opn]; exact hr.1, fun q hq hk => ?_⟩
 rw [h.get]
 rw [h.opn] at hq
 exact hr.2 q hq hk
theorem le_max (a : Wd64) {k : Nat} (hk : k < 256) : decide (a ≤ 18446744073709551615#64 - wI (k : Int)) = !decide (a + wI (k : Int) < a) := by
 have h1 := wI_small (k := k) (by omega)
 have ha := a.isLt
 have e1 : (18446744073709551615#64 - wI (k : Int)).toNat = 18446744073709551615 - k := by
  rw [BitVec.toNat_sub, h1]
  show (18446744073709551616 - k + 18446744073709551615) % 18446744073709551616 = _
  omega
 have e2 : (a + wI (k : Int)).toNat = (a.toNat + k) % 18446744073709551616 := by rw [BitVec.toNat_add, h1]
 rw [Bool.eq_iff_iff]
 simp only [decide_eq_true_eq, Bool.not_eq_true', decide_eq_false_iff_not]
 rw [BitVec.le_def, BitVec.lt_def, e1, e2]
 omega
theorem name_t {a : Wd64} {k : Nat} {b : Bool} (hk : k < 256) (h : (!(decide (a ≤ 18446744073709551615#64 - wI (k : Int)) && b)) = true) : decide (a + wI (k : Int) < a) = true ∨ b = false := by
 rw [le_max a hk] at h
 generalize decide (a + wI (k : Int) < a) = d at h ⊢
 cases d <;> cases b <;> simp_all
theorem name_f {a : Wd64} {k : Nat} {b : Bool} (hk : k < 256) (h : (!(decide (a ≤ 18446744073709551615#64 - wI (k : Int)) && b)) = false) : ¬ (decide (a + wI (k : Int) < a) = true ∨ b = false) := by
 rw [le_max a hk] at h
 generalize decide (a + wI (k : Int) < a) = d at h ⊢
 cases d <;> cases b <;> simp_all

theorem Dname92 (s pg db : Nat) (cc : Pc) (ob : Bool) (lab cl : T) (l : List Pg) (ds : V.DS) (p : V.PW) (nb : Nat) (hl : PgOk l) (hd : cc.prog.data.length ≤ 1048576) (hz0 : 0 ≤ cc.prog.zero) (hz1 : cc.prog.zero ≤ 268435456) (hs : V.Side p (V.pl ds)) (hw : V.RP nb p) (hnb : nb ≤ 549755813888) (a : Wd64) (fl : Int) :
    ACalls Tryz.prog 92 [pv s, zw a, zi fl] ((Ent.box s 64 (psD (psOf cc lab (V.wp db) (mapT pg)) ob cl) :: memE 153 pg l) ++ V.DSt db ds) (fun t S => t = zi (opM cc (getM l) p a fl).n ∧ ∃ l' ds' ob', S = ((Ent.box s 64 (psD (psOf cc lab (V.wp db) (mapT pg)) ob' cl) :: memE 153 pg l') ++ V.DSt db ds') ∧ PgOk l' ∧ getM l' = (opM cc (getM l) p a fl).mem ∧ V.Side (opM cc (getM l) p a fl).w (V.pl ds')) := by
 refine lsr (R := (fun t S => t = zi (opM cc (getM l) p a fl).n ∧ ∃ ds' ob', (((Ent.box s 64 (psD (psOf cc lab (V.wp db) (mapT pg)) ob' cl) :: memE 153 pg l) ++ V.DSt db ds')).Sublist S ∧ getM l = (opM cc (getM l) p a fl).mem ∧ V.Side (opM cc (getM l) p a fl).w (V.pl ds'))) (fun t S' ⟨h1, ds', ob', h2, h3, h4⟩ => ⟨_, h2, h1, l, ds', ob', rfl, hl, h3, h4⟩) ?_
 refine ai Tryz.func92 Tryz.ntmps92 fun X w0 => ?_
 refine rs (y1 ?_)
 refine nl (rs (y1 (nl ?_)))
 refine AW.rowNil 5 1 ?_
 refine AW.perm (List.perm_append_singleton _ _).symm ?_
 refine sq (rs (y1 ?_))
 refine nl (bk ?_)
 refine lp4 (fun (k : Nat) (acc : List UInt8) (A : Option Addr) (c : Nat) => [(0, true, pv s), (1, true, zw a), (2, true, zi fl), (7, true, .v (.slice A acc.length c)), (8, true, zw (wI (k : Int)))]) (fun (k : Nat) (acc : List UInt8) (A : Option Addr) (c : Nat) => (Ent.row A acc.length c 5 1 (acc.map u8) :: ((Ent.box s 64 (psD (psOf cc lab (V.wp db) (mapT pg)) ob cl) :: memE 153 pg l) ++ V.DSt db ds))) (fun (k : Nat) (acc : List UInt8) (A : Option Addr) (c : Nat) => (k ≤ 256 ∧ acc.length = k) ∧ nameF (fun z => thereC cc z 1#64) (getM l) a (256 - k) k acc = nameF (fun z => thereC cc z 1#64) (getM l) a 256 0 []) (fun (k : Nat) (acc : List UInt8) (A : Option Addr) (c : Nat) => 256 - k) 0 ([]) none 0 ?_ ?_
 ·exact ⟨⟨by decide, rfl⟩, rfl⟩
 intro k acc A c ⟨⟨hk0, hacc⟩, hnm⟩
 refine sq (rs (y1 ?_))
 refine Y1 (Yv.lssW (b := 256#64) rfl eV eV) (nl ?_)
 refine cq (fun h0t => ?_) fun h0f => ?_
 ·have hk6 : k < 256 := wI_lt h0t hk0
  refine sp (sq (bk ?_))
  refine AW.perm (S' := Ent.box s 64 (psD (psOf cc lab (V.wp db) (mapT pg)) ob cl) :: Ent.row A acc.length c 5 1 (acc.map u8) :: (memE 153 pg l ++ V.DSt db ds)) (List.Perm.swap _ _ _) ?_
  refine rs (y2 ?_)
  refine Y1 (Yv.subW (a := 18446744073709551615#64) rfl eV eV) ?_
  refine Y1 (Yv.leqW rfl eV eV) ?_
  refine y4 ?_
  refine gT (Yv.addW rfl (Eg rfl rfl id) (Eg rfl rfl id)) ?_
  refine AWL.callKgT rfl rfl rfl rfl (B rfl) rfl ce_45 (E rfl rfl) (evsC (Eg rfl rfl id) (evsC (Eg rfl rfl id) (evsC (E rfl rfl) evs0))) (S1 := [Ent.box s 64 (psD (psOf cc lab (V.wp db) (mapT pg)) ob cl)]) (S2 := _) rfl (fun hg => DThere45 s (psOf cc lab (V.wp db) (mapT pg)) ob cl (a + wI (k : Int)) 1#64 hd hz0 hz1) (fun t S h => h) ?_
  refine y2 (nl ?_)
  refine AW.perm (S' := Ent.row A acc.length c 5 1 (acc.map u8) :: ((Ent.box s 64 (psD (psOf cc lab (V.wp db) (mapT pg)) ob cl) :: memE 153 pg l) ++ V.DSt db ds)) (List.Perm.swap _ _ _) ?_
  refine sq (rs (y2 (nl ?_)))
  refine cq (fun h1t => ?_) fun h1f => ?_
  ·have hth : decide ((a + wI (k : Int)) < a) = true ∨ (fun z => thereC cc z 1#64) (a + wI (k : Int)) = false := name_t hk6 h1t
   refine rs (y4 ?_)
   refine nl (rs (y1 (nl ?_)))
   refine rt ?_
   have hn : nameF (fun z => thereC cc z 1#64) (getM l) a 256 0 [] = .bad := by rw [← hnm, show 256 - k = (256 - (k + 1)) + 1 by omega, nameF, if_pos hth]
   rw [opM, hn]
   exact ⟨rfl, ds, true, List.sublist_cons_self _ _, rfl, hs⟩
  have hth : ¬ (decide ((a + wI (k : Int)) < a) = true ∨ (fun z => thereC cc z 1#64) (a + wI (k : Int)) = false) := name_f hk6 h1f
  refine sp (rs (y3 ?_))
  refine Y1 (Yv.addW rfl eV eV) ?_
  refine AWL.callKP rfl rfl (B rfl) rfl ce_48 (E rfl rfl) (evsC (E rfl rfl) (evsC (E rfl rfl) evs0)) (S1 := (Ent.box s 64 (psD (psOf cc lab (V.wp db) (mapT pg)) ob cl) :: memE 153 pg l)) (S2 := (Ent.row A acc.length c 5 1 (acc.map u8) :: V.DSt db ds)) (List.perm_middle (a := Ent.row A acc.length c 5 1 (acc.map u8)) (l₁ := (Ent.box s 64 (psD (psOf cc lab (V.wp db) (mapT pg)) ob cl) :: memE 153 pg l)) (l₂ := V.DSt db ds)).symm (Dget48 s pg (psOf cc lab (V.wp db) (mapT pg)) ob cl l rfl hl (a + wI (k : Int))) (fun t S h => h) ?_
  refine y1 ?_
  refine nl (sq (rs (y2 (nl ?_))))
  refine cq (fun h2t => ?_) fun h2f => ?_
  ·have h0 : getM l (a + wI (k : Int)) = 0 := u8_is0 h2t
   refine AW.rseqP rfl ?_
   refine phn 7 2 ?_
   refine q5 ?_
   refine Q1 (Yv.bytesStrRow (i := 0) rfl by_23 st_9 rfl eV) ?_
   refine q1 (nq ?_)
   refine op 7 ?_
   refine cE ce_110 (Ent.row A acc.length c 5 1 (acc.map u8) :: (Ent.box s 64 (psD (psOf cc lab (V.wp db) (mapT pg)) ob cl) :: memE 153 pg l)) _ rfl rfl rfl (V.SysOpen37 db ds nb (side_pb hs hw.pb) (by omega) acc fl (by omega)) ?_
   rintro t45 S45 ⟨rfl, ds2, hds2, rfl⟩
   refine nl ?_
   refine op 8 ?_
   refine y1 (nl ?_)
   refine dn ?_
   refine rt ?_
   have hn : nameF (fun z => thereC cc z 1#64) (getM l) a 256 0 [] = .is acc := by rw [← hnm, show 256 - k = (256 - (k + 1)) + 1 by omega, nameF, if_neg hth, if_pos h0]
   rw [opM, hn]
   exact ⟨congrArg zi (hs.openV acc fl), ds2, ob, List.sublist_cons_self _ _, rfl, hs.openD hds2⟩
  replace h2f : ¬ getM l (a + wI (k : Int)) = 0 := u8_not0 h2f
  refine sp (rg (y2 ?_))
  refine AWL.buildSlice1 rfl rfl (B rfl) rfl el_23 rfl (evsC (E rfl rfl) evs0) nB rfl rfl ?_
  refine AWL.appendRow (i := 0) rfl rfl (B rfl) rfl el_23 (B rfl) rfl (E rfl rfl) (SrcT.sl so_23 (B rfl) (E rfl rfl) rfl) (by unfold maxLen; omega) (by omega) (fun A49 c49 => ?_)
  refine y1 ?_
  refine nl (rg (y1 ?_))
  refine Y1 (Yv.addW (b := 1#64) rfl eV eV) ?_
  refine y1 (nl ?_)
  refine ⟨k + 1, acc ++ [getM l (a + wI (k : Int))], A49, c49, ⟨⟨by omega, by rw [List.length_append, hacc]; rfl⟩, ?_⟩, by omega, (su (su (su (Sub.cons rfl (by rw [List.length_append]; rfl) (Sub.cons rfl (by rw [← wI_succ]) Sub.nil))))), ?_⟩
  ·rw [← hnm, show 256 - k = (256 - (k + 1)) + 1 by omega, nameF, if_neg hth, if_neg h2f]
  rw [List.length_append, List.map_append]
  rfl
 have hk6 : k = 256 := wI_nlt hk0 h0f
 refine xt (rs (y1 (nl ?_)))
 refine rt ?_
 have hn : nameF (fun z => thereC cc z 1#64) (getM l) a 256 0 [] = .long := by rw [← hnm, hk6]; rfl
 rw [opM, hn]
 exact ⟨rfl, ds, ob, List.sublist_cons_self _ _, rfl, hs⟩


theorem okS_rd2 (x : Fr) (i : Ins) : okS x.set (rd2 i) = ((!(hasF i.kind).a || x.set.getD i.a.toNat default) && (!(hasF i.kind).b || x.set.getD i.b.toNat default)) := by
 unfold rd2 rd1
 rw [okS_app]
 cases (hasF i.kind).a <;> cases (hasF i.kind).b <;> simp [okS]
theorem rd_bad {x : Fr} {i : Ins} (h : ((hasF i.kind).a = true ∧ x.set.getD i.a.toNat default = false) ∨ ((hasF i.kind).b = true ∧ x.set.getD i.b.toNat default = false)) : okS x.set (readsF i) = false := by
 rw [rd3_of, okS_app, okS_rd2]
 rcases h with ⟨h1, h2⟩ | ⟨h1, h2⟩ <;> rw [h1, h2] <;> simp
theorem rdE_ok {x : Fr} {i : Ins} (h : ((hasF i.kind).a = true → x.set.getD i.a.toNat default = true) ∧ ((hasF i.kind).b = true → x.set.getD i.b.toNat default = true)) : okS x.set (rd2 i) = true := by
 rw [okS_rd2]
 obtain ⟨h1, h2⟩ := h
 cases ha : (hasF i.kind).a <;> cases hb : (hasF i.kind).b <;> simp_all
theorem rd_arg {x : Fr} {i : Ins} {k : Nat} (hA : (hasF i.kind).args = true) (hk : k < i.args.length) (h : x.set.getD (i.args.getD k default).toNat default = false) : okS x.set (readsF i) = false := by
 rw [rd3_of, if_pos hA, okS_app]
 have h2 : okS x.set i.args = false := by
  unfold okS
  rw [List.all_eq_false]
  exact ⟨_, getD_mem hk, by rw [h]; decide⟩
 rw [h2, Bool.and_false]
theorem rd_all {x : Fr} {i : Ins} {k : Nat} (h2 : okS x.set (rd2 i) = true) (hk : k ≤ i.args.length) (hka : (hasF i.kind).args = true → okS x.set (i.args.take k) = true) (h : (k : Int) < (i.args.length : Int) → (hasF i.kind).args = false) : okS x.set (readsF i) = true := by
 rw [rd3_of, okS_app, h2, Bool.true_and]
 cases hA : (hasF i.kind).args with
 | false => rfl
 | true =>
  have : ¬ (k : Int) < (i.args.length : Int) := fun q => by rw [h q] at hA; cases hA
  obtain rfl : k = i.args.length := by omega
  have h3 := hka hA
  rw [List.take_length] at h3
  rw [if_pos rfl]; exact h3
theorem DstepV_ (s g n c : Nat) (ps : PS) (ob : Bool) (pre : List T) (x : Fr) (a : FA) (i : Ins) (hx : FrOk x) (hk : valK i.kind ∨ i.kind = 32) (ha : (hasF i.kind).a = true → 0 ≤ i.a ∧ i.a < (x.nr : Int)) (hb : (hasF i.kind).b = true → 0 ≤ i.b ∧ i.b < (x.nr : Int)) (hs : i.kind = 31 ∨ i.kind = 32 → 0 ≤ i.imm ∧ i.imm < (x.ns : Int)) (hre : i.kind = 16 → 1 ≤ i.real ∧ i.real ≤ 8) (hdd : (hasF i.kind).d = true → 0 ≤ i.d ∧ i.d < (x.nr : Int)) (hg : (hasF i.kind).args = true → ∀ r ∈ i.args, 0 ≤ r ∧ r < (x.nr : Int)) (hgl : i.args.length ≤ 1048576) (hat : 0 ≤ x.at_ ∧ x.at_ ≤ 4611686018427387904) :
    ACalls Tryz.prog 38 [pv s, .ep (.slice (sg g) n c) pre.length, .agg (insCells i)] ([Ent.box s 64 (psD ps ob (.v (.slice (sg g) n c))), Ent.row (sg g) n c 108 7 (pre ++ frD x a)] ++ frE x a) (fun t S => t = bv (stepA realF ps.heap x i).isSome ∧ ([Ent.box s 64 (psD ps ob (.v (.slice (sg g) n c))), Ent.row (sg g) n c 108 7 (pre ++ frD ((stepA realF ps.heap x i).getD x) a)] ++ frE ((stepA realF ps.heap x i).getD x) a).Sublist S) := by
 have hl1 := hx.r
 have hl2 := hx.s
 have hl3 := hx.t
 have hl4 := hx.h
 obtain ⟨hat0, hat1⟩ := hat
 have hkv := hk
 unfold valK at hk
 refine ai Tryz.func38 Tryz.ntmps38 fun X w0 => ?_
 refine rs ?_
 refine bx fun b5 => ?_
 refine y1 ?_
 refine nl (rs (y2 ?_))
 refine kt (Of36 i.kind) ?_
 rintro t16 S16 rfl
 refine y3 ?_
 refine bx fun b7 => ?_
 refine y2 ?_
 refine nl (sq (rq (q9 ?_)))
 refine kT (ix (j := i.a.toNat) (hj := fun hg => ⟨(Int.toNat_of_nonneg (ha (by simpa using hg)).1).symm, by have h8 := ha (by simpa using hg); omega⟩)) ?_
 refine kT (lw (hr := fun hg => bool_at (by have h9 := ha (by simpa using hg); omega))) ?_
 refine q12 ?_
 refine kT (ix (j := i.b.toNat) (hj := fun hg => ⟨(Int.toNat_of_nonneg (hb (ar hg)).1).symm, by have h8 := hb (ar hg); omega⟩)) ?_
 refine kT (lw (hr := fun hg => bool_at (by have h9 := hb (ar hg); omega))) ?_
 refine q3 (nq ?_)
 refine cq (fun h0t => ?_) fun h0f => ?_
 ·have hbd := rd_bad (x := x) (i := i) (by simpa using h0t)
  refine rs (y1 (nl ?_))
  refine rt ?_
  rw [stepA, if_pos hbd]
  exact ⟨rfl, List.sublist_append_left _ _⟩
 have hr2 := rdE_ok (x := x) (i := i) (by simpa using h0f)
 refine sp (sq (rs (y1 ?_)))
 refine nl (bk ?_)
 refine lp1 (fun (k : Nat) => [(0, true, pv s), (1, true, .ep (.slice (sg g) n c) pre.length), (5, true, pv b5), (7, true, pv b7), (9, true, zv k)]) (fun (k : Nat) => (([Ent.box s 64 (psD ps ob (.v (.slice (sg g) n c))), Ent.row (sg g) n c 108 7 (pre ++ frD x a)] ++ frE x a) ++ [Ent.box b5 90 (insCells i), Ent.box b7 131 (hasCells (hasF i.kind))])) (fun (k : Nat) => k ≤ i.args.length ∧ ((hasF i.kind).args = true → okS x.set (i.args.take k) = true)) (fun (k : Nat) => i.args.length - k) 0 ?_ ?_
 ·exact ⟨Nat.zero_le _, fun _ => rfl⟩
 intro k ⟨hk0, hka⟩
 refine sq (rs (y9 (nl ?_)))
 refine cq (fun h1t => ?_) fun h1f => ?_
 ·have hk1 : k < i.args.length ∧ (hasF i.kind).args = true := by
   have h : (k : Int) < (i.args.length : Int) ∧ (hasF i.kind).args = true := by simpa using h1t
   exact ⟨by omega, h.2⟩
  have hkr := hg hk1.2 _ (getD_mem (l := i.args) hk1.1)
  refine sp (sq (bk (rq (q9 ?_))))
  refine Q1 (ix (j := (i.args.getD k default).toNat) (hj := fun hg => ⟨(Int.toNat_of_nonneg hkr.1).symm, by omega⟩)) ?_
  refine q2 (nq ?_)
  refine cq (fun h2t => ?_) fun h2f => ?_
  ·have hbd := rd_arg (x := x) (i := i) hk1.2 hk1.1 (by simpa using h2t)
   refine rs (y1 (nl ?_))
   refine rt ?_
   rw [stepA, if_pos hbd]
   exact ⟨rfl, List.sublist_append_left _ _⟩
  refine sp (rg (y3 (nl ?_)))
  refine ⟨k + 1, ⟨by omega, fun h => ?_⟩, by omega, sbZ, rfl⟩
  rw [take_gd hk1.1, okS_app, hka h, okS_one, Bool.true_and]
  simpa using h2f
 have hok := rd_all hr2 hk0 hka (by simpa using h1f)
 refine xt (sq (rs (y2 ?_)))
 refine nl (bk (rs (y2 (nl ?_))))
 refine cf fun _ => ?_
 refine rs (y2 (nl ?_))
 refine cf fun _ => ?_
 refine rs (y2 (nl ?_))
 refine cf fun _ => ?_
 refine rs (y2 (nl ?_))
 refine cq (fun h6t => ?_) fun h6f => ?_
 ·obtain ⟨hs0, hs1⟩ := hs (.inr h6t)
  obtain ⟨ha0, ha1⟩ := ha (by rw [h6t]; rfl)
  refine AW.rseqP rfl ?_
  refine phn 15 1 ?_
  refine q15 (nq ?_)
  refine op 15 ?_
  refine y1 (nl ?_)
  refine dn ?_
  refine AW.rseqP rfl ?_
  refine phn 7 1 ?_
  refine q7 (nq ?_)
  refine op 7 ?_
  refine y1 (nl ?_)
  refine dn ?_
  refine rs (y8 ?_)
  refine nl (rs (y1 (nl ?_)))
  refine rt ?_
  rw [stepA, if_neg (by rw [hok]; decide), if_pos h6t]
  refine ⟨rfl, ?_⟩
  refine (List.sublist_append_left ([Ent.box s 64 (psD ps ob (.v (.slice (sg g) n c))), Ent.row (sg g) n c 108 7 (pre ++ frD (goF (putF x i)) a)] ++ frE (goF (putF x i)) a) [Ent.box b5 90 (insCells i), Ent.box b7 131 (hasCells (hasF i.kind))]).trans ?_
  rw [show frE (goF (putF x i)) a = frE (putF x i) a from rfl, putE_rows, show frD (goF (putF x i)) a = frD (goF x) a from rfl, show goF x = { x with at_ := x.at_ + 1 } from rfl, ← fd_jump]
  exact List.Sublist.refl _
 have hvk : valK i.kind := hkv.resolve_right h6f
 refine rs (y2 (nl ?_))
 refine cf fun _ => ?_
 refine rs (y2 (nl ?_))
 refine cf fun _ => ?_
 refine sq (rs (y2 (nl ?_)))
 refine cf fun _ => ?_
 refine rs (y2 (nl ?_))
 refine cf fun _ => ?_
 refine rs (y2 (nl ?_))
 refine cf fun _ => ?_
 refine rg (y2 (nl ?_))
 refine cf fun _ => ?_
 refine sp (rs (y3 ?_))
 refine kc (Dvalue72 s g n c ps ob pre x a i hx hvk ha hb (fun h => hs (.inl h)) hre) ?_
 rintro t230 S230 ⟨rfl, rfl⟩
 refine y5 ?_
 refine nl (sq (rs (y2 (nl ?_))))
 refine cq (fun h13t => ?_) fun h13f => ?_
 ·refine rs (y1 (nl ?_))
  refine rt ?_
  rw [stepA, if_neg (by rw [hok]; decide), if_neg h6f, if_neg (by simpa using h13t)]
  exact ⟨rfl, List.sublist_append_left _ _⟩
 refine sp ?_
 obtain ⟨hd0, hd1⟩ := hdd (has_d hvk)
 refine AW.rseqP rfl ?_
 refine phn 8 1 ?_
 refine q8 (nq ?_)
 refine op 8 ?_
 refine y1 (nl ?_)
 refine dn ?_
 refine AW.rseqP rfl ?_
 refine phn 7 1 ?_
 refine q7 (nq ?_)
 refine op 7 ?_
 refine y1 (nl ?_)
 refine dn ?_
 refine rs (y8 ?_)
 refine nl (rs (y1 (nl ?_)))
 refine rt ?_
 rw [stepA, if_neg (by rw [hok]; decide), if_neg h6f, if_pos (by simpa using h13f)]
 refine ⟨rfl, ?_⟩
 refine (List.sublist_append_left ([Ent.box s 64 (psD ps ob (.v (.slice (sg g) n c))), Ent.row (sg g) n c 108 7 (pre ++ frD (goF (setD x i.d (valueF realF ps.heap x i).1)) a)] ++ frE (goF (setD x i.d (valueF realF ps.heap x i).1)) a) [Ent.box b5 90 (insCells i), Ent.box b7 131 (hasCells (hasF i.kind))]).trans ?_
 rw [show frE (goF (setD x i.d (valueF realF ps.heap x i).1)) a = frE (setD x i.d (valueF realF ps.heap x i).1) a from rfl, setE_rows, show frD (goF (setD x i.d (valueF realF ps.heap x i).1)) a = frD (goF x) a from rfl, show goF x = { x with at_ := x.at_ + 1 } from rfl, ← fd_jump]
 exact List.Sublist.refl _


theorem DstepJ_ (s g n c gl nf lc : Nat) (ps : PS) (ob : Bool) (pre : List T) (x : Fr) (a : FA) (i : Ins) (bs : List Nat) (m : LM) (hx : FrOk x) (hlab : ps.lab = .v (.slice (sg gl) nf lc)) (hnf : bs.length = nf) (hf0 : 0 ≤ x.f) (hf1 : x.f.toNat < nf) (hk : i.kind = 20 ∨ i.kind = 21) (ha : (hasF i.kind).a = true → 0 ≤ i.a ∧ i.a < (x.nr : Int)) (hb : (hasF i.kind).b = true → 0 ≤ i.b ∧ i.b < (x.nr : Int)) (hg : (hasF i.kind).args = true → ∀ r ∈ i.args, 0 ≤ r ∧ r < (x.nr : Int)) (hgl : i.args.length ≤ 1048576) (hat : 0 ≤ x.at_ ∧ x.at_ ≤ 4611686018427387904) :
    ACalls Tryz.prog 38 [pv s, .ep (.slice (sg g) n c) pre.length, .agg (insCells i)] (([Ent.box s 64 (psD ps ob (.v (.slice (sg g) n c))), Ent.row (sg g) n c 108 7 (pre ++ frD x a)] ++ frE x a) ++ [Ent.row (sg gl) nf lc 87 1 (bs.map mapT), Ent.map (bs.getD x.f.toNat 0) (lmT m)]) (fun t S => t = bv (okS x.set (readsF i)) ∧ (([Ent.box s 64 (psD ps ob (.v (.slice (sg g) n c))), Ent.row (sg g) n c 108 7 (pre ++ frD (if okS x.set (readsF i) = true then { x with at_ := if i.kind = 20 ∨ holdsF i.cond (rA x i.a) (rA x i.b) = true then getL i.l m else x.at_ + 1 } else x) a)] ++ frE (if okS x.set (readsF i) = true then { x with at_ := if i.kind = 20 ∨ holdsF i.cond (rA x i.a) (rA x i.b) = true then getL i.l m else x.at_ + 1 } else x) a) ++ [Ent.row (sg gl) nf lc 87 1 (bs.map mapT), Ent.map (bs.getD x.f.toNat 0) (lmT m)]).Sublist S) := by
 have hl1 := hx.r
 have hl3 := hx.t
 obtain ⟨hat0, hat1⟩ := hat
 refine ai Tryz.func38 Tryz.ntmps38 fun X w0 => ?_
 refine rs ?_
 refine bx fun b5 => ?_
 refine y1 ?_
 refine nl (rs (y2 ?_))
 refine kt (Of36 i.kind) ?_
 rintro t16 S16 rfl
 refine y3 ?_
 refine bx fun b7 => ?_
 refine y2 ?_
 refine nl (sq (rq (q9 ?_)))
 refine kT (ix (j := i.a.toNat) (hj := fun hg => ⟨(Int.toNat_of_nonneg (ha (by simpa using hg)).1).symm, by have h8 := ha (by simpa using hg); omega⟩)) ?_
 refine kT (lw (hr := fun hg => bool_at (by have h9 := ha (by simpa using hg); omega))) ?_
 refine q12 ?_
 refine kT (ix (j := i.b.toNat) (hj := fun hg => ⟨(Int.toNat_of_nonneg (hb (ar hg)).1).symm, by have h8 := hb (ar hg); omega⟩)) ?_
 refine kT (lw (hr := fun hg => bool_at (by have h9 := hb (ar hg); omega))) ?_
 refine q3 (nq ?_)
 refine cq (fun h0t => ?_) fun h0f => ?_
 ·have hbd := rd_bad (x := x) (i := i) (by simpa using h0t)
  refine rs (y1 (nl ?_))
  refine rt ?_
  rw [hbd]
  exact ⟨rfl, List.sublist_append_left _ _⟩
 have hr2 := rdE_ok (x := x) (i := i) (by simpa using h0f)
 refine sp (sq (rs (y1 ?_)))
 refine nl (bk ?_)
 refine lp1 (fun (k : Nat) => [(0, true, pv s), (1, true, .ep (.slice (sg g) n c) pre.length), (5, true, pv b5), (7, true, pv b7), (9, true, zv k)]) (fun (k : Nat) => ((([Ent.box s 64 (psD ps ob (.v (.slice (sg g) n c))), Ent.row (sg g) n c 108 7 (pre ++ frD x a)] ++ frE x a) ++ [Ent.row (sg gl) nf lc 87 1 (bs.map mapT), Ent.map (bs.getD x.f.toNat 0) (lmT m)]) ++ [Ent.box b5 90 (insCells i), Ent.box b7 131 (hasCells (hasF i.kind))])) (fun (k : Nat) => k ≤ i.args.length ∧ ((hasF i.kind).args = true → okS x.set (i.args.take k) = true)) (fun (k : Nat) => i.args.length - k) 0 ?_ ?_
 ·exact ⟨Nat.zero_le _, fun _ => rfl⟩
 intro k ⟨hk0, hka⟩
 refine sq (rs (y9 (nl ?_)))
 refine cq (fun h1t => ?_) fun h1f => ?_
 ·have hk1 : k < i.args.length ∧ (hasF i.kind).args = true := by
   have h : (k : Int) < (i.args.length : Int) ∧ (hasF i.kind).args = true := by simpa using h1t
   exact ⟨by omega, h.2⟩
  have hkr := hg hk1.2 _ (getD_mem (l := i.args) hk1.1)
  refine sp (sq (bk (rq (q9 ?_))))
  refine Q1 (ix (j := (i.args.getD k default).toNat) (hj := fun hg => ⟨(Int.toNat_of_nonneg hkr.1).symm, by omega⟩)) ?_
  refine q2 (nq ?_)
  refine cq (fun h2t => ?_) fun h2f => ?_
  ·have hbd := rd_arg (x := x) (i := i) hk1.2 hk1.1 (by simpa using h2t)
   refine rs (y1 (nl ?_))
   refine rt ?_
   rw [hbd]
   exact ⟨rfl, List.sublist_append_left _ _⟩
  refine sp (rg (y3 (nl ?_)))
  refine ⟨k + 1, ⟨by omega, fun h => ?_⟩, by omega, sbZ, rfl⟩
  rw [take_gd hk1.1, okS_app, hka h, okS_one, Bool.true_and]
  simpa using h2f
 have hok := rd_all hr2 hk0 hka (by simpa using h1f)
 refine xt (sq (rs (y2 ?_)))
 refine nl (bk (rs (y2 (nl ?_))))
 refine cq (fun h3t => ?_) fun h3f => ?_
 ·refine AW.rseqP rfl ?_
  refine phn 16 1 ?_
  refine q5 ?_
  rw [hlab]
  refine q8 ?_
  refine Q1 (Yv.eqT (Yv.lookup1 (k := .i _ _) (i := 7) rfl mp_87 rfl eV eV rfl (lm_good _ _ rfl)) (get_lm _ _)) ?_
  refine q2 (nq ?_)
  refine op 16 ?_
  refine y1 (nl ?_)
  refine dn ?_
  refine rs (y1 (nl ?_))
  refine rt ?_
  refine ⟨by rw [hok]; rfl, ?_⟩
  rw [if_pos hok, if_pos (.inl h3t), ← fd_jump]
  exact List.sublist_append_left _ _
 refine rs (y2 (nl ?_))
 refine ct fun h4t => ?_
 obtain ⟨ha0, ha1⟩ := ha (by rw [h4t]; rfl)
 obtain ⟨hb0, hb1⟩ := hb (by rw [h4t]; rfl)
 refine rs (y8 (nl ?_))
 refine AW.eqS (S' := (([Ent.box s 64 (psD ps ob (.v (.slice (sg g) n c))), Ent.row (sg g) n c 108 7 (pre ++ frD (goF x) a)] ++ frE (goF x) a) ++ [Ent.row (sg gl) nf lc 87 1 (bs.map mapT), Ent.map (bs.getD x.f.toNat 0) (lmT m)]) ++ [Ent.box b5 90 (insCells i), Ent.box b7 131 (hasCells (hasF i.kind))]) (by rw [show (pre ++ frD (goF x) a) = (pre ++ frD x a).set (pre.length + 1) (zi (x.at_ + 1)) from (fd_jump _).symm]; rfl) ?_
 refine AW.rseqP rfl ?_
 refine phn 18 2 ?_
 refine q8 ?_
 refine Q1 (ix (j := i.a.toNat) (hj := fun hg => ⟨(Int.toNat_of_nonneg ha0).symm, show i.a.toNat < x.nr by omega⟩)) ?_
 refine Q1 (lw (hr := fun hg => word_at (show i.a.toNat < x.r.length by omega))) ?_
 refine q6 ?_
 refine Q1 (ix (j := i.b.toNat) (hj := fun hg => ⟨(Int.toNat_of_nonneg hb0).symm, show i.b.toNat < x.nr by omega⟩)) ?_
 refine Q1 (lw (hr := fun hg => word_at (show i.b.toNat < x.r.length by omega))) ?_
 refine nq ?_
 refine op 18 ?_
 refine kt (DHolds68 i.cond (rA x i.a) (rA x i.b)) ?_
 rintro t117 S117 rfl
 refine nl ?_
 refine op 19 ?_
 refine y1 (nl ?_)
 refine dn ?_
 refine sq (rs (y1 (nl ?_)))
 refine cq (fun h5t => ?_) fun h5f => ?_
 ·refine AW.regionP rfl ?_
  refine phn 16 1 ?_
  refine q5 ?_
  rw [hlab]
  refine q4 ?_
  refine Q1 (ix (j := x.f.toNat) (hj := fun hg => ⟨(show (goF x).f = ((x.f.toNat : Nat) : Int) from (Int.toNat_of_nonneg hf0).symm), by omega⟩)) ?_
  refine q3 ?_
  refine Q1 (Yv.eqT (Yv.lookup1 (k := .i _ _) (i := 7) rfl mp_87 rfl eV eV rfl (lm_good _ _ rfl)) (get_lm _ _)) ?_
  refine q2 (nq ?_)
  refine op 16 ?_
  refine y1 (nl ?_)
  refine dn ?_
  refine rs (y1 (nl ?_))
  refine rt ?_
  refine ⟨by rw [hok]; rfl, ?_⟩
  rw [if_pos hok, if_pos (.inr h5t), show frE { x with at_ := getL i.l m } a = frE (goF x) a from rfl, show (pre ++ frD { x with at_ := getL i.l m } a) = (pre ++ frD (goF x) a).set (pre.length + 1) (zi (getL i.l m)) from (fd_jump (pre := pre) (x := goF x) (a := a) (getL i.l m)).symm]
  exact List.sublist_append_left _ _
 refine sp (rs (y1 (nl ?_)))
 refine rt ?_
 refine ⟨by rw [hok]; rfl, ?_⟩
 rw [if_pos hok, if_neg (show ¬ (i.kind = 20 ∨ _) from fun e => e.elim h3f (by rw [h5f]; decide))]
 exact List.sublist_append_left _ _


theorem pLd2 {B P R : Ent} {F M : St} : ((B :: R :: F) ++ (P :: M)).Perm (B :: (([P, R] ++ F) ++ M)) := (List.perm_append_comm (l₁ := B :: R :: F) (l₂ := P :: M)).trans (List.Perm.symm ((List.Perm.swap P B _).trans (List.Perm.cons P (List.perm_append_comm (l₁ := B :: R :: F) (l₂ := M)))))
theorem Dvalue72L (s g n c pg : Nat) (ps : PS) (ob : Bool) (pre : List T) (x : Fr) (a : FA) (i : Ins) (l : List Pg) (hx : FrOk x) (hpg : ps.pages = mapT pg) (hl : PgOk l) (hd : ps.prog.data.length ≤ 1048576) (hz0 : 0 ≤ ps.prog.zero) (hz1 : ps.prog.zero ≤ 268435456) (hk : i.kind = 17) (ha : 0 ≤ i.a ∧ i.a < (x.nr : Int)) :
    ACalls Tryz.prog 72 [pv s, .ep (.slice (sg g) n c) pre.length, .agg (insCells i)] (([Ent.box s 64 (psD ps ob (.v (.slice (sg g) n c))), Ent.row (sg g) n c 108 7 (pre ++ frD x a)] ++ frE x a) ++ memE 153 pg l) (fun t S => t = .tup [zw (if (sizeOk i.size && thereF (psData ps.prog) ps.heap (adF x i) (wI i.size)) = true then (leF (getM l) (adF x i) i.size.toNat) else 0#64), bv (sizeOk i.size && thereF (psData ps.prog) ps.heap (adF x i) (wI i.size))] ∧ S = (([Ent.box s 64 (psD ps ob (.v (.slice (sg g) n c))), Ent.row (sg g) n c 108 7 (pre ++ frD x a)] ++ frE x a) ++ memE 153 pg l)) := by
 refine lsr (R := (fun t S => t = .tup [zw (if (sizeOk i.size && thereF (psData ps.prog) ps.heap (adF x i) (wI i.size)) = true then (leF (getM l) (adF x i) i.size.toNat) else 0#64), bv (sizeOk i.size && thereF (psData ps.prog) ps.heap (adF x i) (wI i.size))] ∧ ((([Ent.box s 64 (psD ps ob (.v (.slice (sg g) n c))), Ent.row (sg g) n c 108 7 (pre ++ frD x a)] ++ frE x a) ++ memE 153 pg l)).Sublist S)) (fun t S' ⟨h1, h2⟩ => ⟨_, h2, h1, rfl⟩) ?_
 have hl1 := hx.r
 obtain ⟨ha0, ha1⟩ := ha
 refine ai Tryz.func72 Tryz.ntmps72 fun X w0 => ?_
 refine rs ?_
 refine bg fun b5 => ?_
 refine y2 ?_
 refine nl (sq (rs (y2 ?_)))
 refine nl (bk (rs (y2 (nl ?_))))
 refine cf fun _ => ?_
 refine rs (y2 (nl ?_))
 refine cf fun _ => ?_
 refine rs (y2 (nl ?_))
 refine cf fun _ => ?_
 refine rs (y2 (nl ?_))
 refine cf fun _ => ?_
 refine rs (y2 (nl ?_))
 refine cf fun _ => ?_
 refine sp (rq (q9 ?_))
 refine nq (sq (rs (y3 (nl ?_))))
 refine cf fun _ => ?_
 refine sp (sq (rs (y3 (nl ?_))))
 refine ct fun _ => ?_
 refine rs (y4 ?_)
 refine Y1 (Yv.convW rfl Tryz.underlying2 kd_29 eV) ?_
 refine Y1 (Yv.addW rfl eV eV) ?_
 refine y2 ?_
 refine AWL.perm (S' := (Ent.box b5 90 (insCells i) :: Ent.row (sg g) n c 108 7 (pre ++ frD x a) :: frE x a) ++ (Ent.box s 64 (psD ps ob (.v (.slice (sg g) n c))) :: memE 153 pg l)) pLd2 ?_
 refine cE ce_20 (Ent.box b5 90 (insCells i) :: Ent.row (sg g) n c 108 7 (pre ++ frD x a) :: frE x a) _ rfl rfl rfl (DLoad20 s pg ps ob (.v (.slice (sg g) n c)) l hpg hl hd hz0 hz1 (adF x i) i.size) ?_
 rintro t80 S80 ⟨rfl, rfl⟩
 refine AWL.perm (S' := Ent.box b5 90 (insCells i) :: (([Ent.box s 64 (psD ps ob (.v (.slice (sg g) n c))), Ent.row (sg g) n c 108 7 (pre ++ frD x a)] ++ frE x a) ++ memE 153 pg l)) pLd2.symm ?_
 refine y4 (nl ?_)
 refine rt ?_
 exact ⟨rfl, List.sublist_cons_self _ _⟩

theorem DstepLd_ (s g n c pg : Nat) (ps : PS) (ob : Bool) (pre : List T) (x : Fr) (a : FA) (i : Ins) (l : List Pg) (hx : FrOk x) (hpg : ps.pages = mapT pg) (hl : PgOk l) (hd : ps.prog.data.length ≤ 1048576) (hz0 : 0 ≤ ps.prog.zero) (hz1 : ps.prog.zero ≤ 268435456) (hk : i.kind = 17) (ha : (hasF i.kind).a = true → 0 ≤ i.a ∧ i.a < (x.nr : Int)) (hb : (hasF i.kind).b = true → 0 ≤ i.b ∧ i.b < (x.nr : Int)) (hdd : (hasF i.kind).d = true → 0 ≤ i.d ∧ i.d < (x.nr : Int)) (hg : (hasF i.kind).args = true → ∀ r ∈ i.args, 0 ≤ r ∧ r < (x.nr : Int)) (hgl : i.args.length ≤ 1048576) (hat : 0 ≤ x.at_ ∧ x.at_ ≤ 4611686018427387904) :
    ACalls Tryz.prog 38 [pv s, .ep (.slice (sg g) n c) pre.length, .agg (insCells i)] (([Ent.box s 64 (psD ps ob (.v (.slice (sg g) n c))), Ent.row (sg g) n c 108 7 (pre ++ frD x a)] ++ frE x a) ++ memE 153 pg l) (fun t S => t = bv ((okS x.set (readsF i)) && (sizeOk i.size && thereF (psData ps.prog) ps.heap (adF x i) (wI i.size))) ∧ ((([Ent.box s 64 (psD ps ob (.v (.slice (sg g) n c))), Ent.row (sg g) n c 108 7 (pre ++ frD (if ((okS x.set (readsF i)) && (sizeOk i.size && thereF (psData ps.prog) ps.heap (adF x i) (wI i.size))) = true then goF (setD x i.d (leF (getM l) (adF x i) i.size.toNat)) else x) a)] ++ frE (if ((okS x.set (readsF i)) && (sizeOk i.size && thereF (psData ps.prog) ps.heap (adF x i) (wI i.size))) = true then goF (setD x i.d (leF (getM l) (adF x i) i.size.toNat)) else x) a) ++ memE 153 pg l)).Sublist S) := by
 have hl1 := hx.r
 have hl3 := hx.t
 obtain ⟨hat0, hat1⟩ := hat
 have ha1 := ha (by rw [hk]; rfl)
 obtain ⟨hd0, hd1⟩ := hdd (by rw [hk]; rfl)
 refine ai Tryz.func38 Tryz.ntmps38 fun X w0 => ?_
 refine rs ?_
 refine bg fun b5 => ?_
 refine y1 ?_
 refine nl (rs (y2 ?_))
 refine kt (Of36 i.kind) ?_
 rintro t16 S16 rfl
 refine y3 ?_
 refine bg fun b7 => ?_
 refine y2 ?_
 refine nl (sq (rq (q9 ?_)))
 refine kT (ix (j := i.a.toNat) (hj := fun hg => ⟨(Int.toNat_of_nonneg (ha (by simpa using hg)).1).symm, by have h8 := ha (by simpa using hg); omega⟩)) ?_
 refine kT (lw (hr := fun hg => bool_at (by have h9 := ha (by simpa using hg); omega))) ?_
 refine q12 ?_
 refine kT (ix (j := i.b.toNat) (hj := fun hg => ⟨(Int.toNat_of_nonneg (hb (ar hg)).1).symm, by have h8 := hb (ar hg); omega⟩)) ?_
 refine kT (lw (hr := fun hg => bool_at (by have h9 := hb (ar hg); omega))) ?_
 refine q3 (nq ?_)
 refine cq (fun h0t => ?_) fun h0f => ?_
 ·have hbd := rd_bad (x := x) (i := i) (by simpa using h0t)
  refine rs (y1 (nl ?_))
  refine rt ?_
  rw [hbd, Bool.false_and]
  refine ⟨rfl, ?_⟩
  rw [if_neg Bool.false_ne_true]
  exact (show ((([Ent.box s 64 (psD ps ob (.v (.slice (sg g) n c))), Ent.row (sg g) n c 108 7 (pre ++ frD x a)] ++ frE x a) ++ memE 153 pg l)).Sublist ([Ent.box b7 131 (hasCells (hasF i.kind)), Ent.box b5 90 (insCells i)] ++ (([Ent.box s 64 (psD ps ob (.v (.slice (sg g) n c))), Ent.row (sg g) n c 108 7 (pre ++ frD x a)] ++ frE x a) ++ memE 153 pg l)) from List.sublist_append_right _ _)
 have hr2 := rdE_ok (x := x) (i := i) (by simpa using h0f)
 refine sp (sq (rs (y1 ?_)))
 refine nl (bk ?_)
 refine lp1 (fun (k : Nat) => [(0, true, pv s), (1, true, .ep (.slice (sg g) n c) pre.length), (5, true, pv b5), (7, true, pv b7), (9, true, zv k)]) (fun (k : Nat) => ([Ent.box b7 131 (hasCells (hasF i.kind)), Ent.box b5 90 (insCells i)] ++ (([Ent.box s 64 (psD ps ob (.v (.slice (sg g) n c))), Ent.row (sg g) n c 108 7 (pre ++ frD x a)] ++ frE x a) ++ memE 153 pg l))) (fun (k : Nat) => k ≤ i.args.length ∧ ((hasF i.kind).args = true → okS x.set (i.args.take k) = true)) (fun (k : Nat) => i.args.length - k) 0 ?_ ?_
 ·exact ⟨Nat.zero_le _, fun _ => rfl⟩
 intro k ⟨hk0, hka⟩
 refine sq (rs (y9 (nl ?_)))
 refine cq (fun h1t => ?_) fun h1f => ?_
 ·have hk1 : k < i.args.length ∧ (hasF i.kind).args = true := by
   have h : (k : Int) < (i.args.length : Int) ∧ (hasF i.kind).args = true := by simpa using h1t
   exact ⟨by omega, h.2⟩
  have hkr := hg hk1.2 _ (getD_mem (l := i.args) hk1.1)
  refine sp (sq (bk (rq (q9 ?_))))
  refine Q1 (ix (j := (i.args.getD k default).toNat) (hj := fun hg => ⟨(Int.toNat_of_nonneg hkr.1).symm, by omega⟩)) ?_
  refine q2 (nq ?_)
  refine cq (fun h2t => ?_) fun h2f => ?_
  ·have hbd := rd_arg (x := x) (i := i) hk1.2 hk1.1 (by simpa using h2t)
   refine rs (y1 (nl ?_))
   refine rt ?_
   rw [hbd, Bool.false_and]
   refine ⟨rfl, ?_⟩
   rw [if_neg Bool.false_ne_true]
   exact (show ((([Ent.box s 64 (psD ps ob (.v (.slice (sg g) n c))), Ent.row (sg g) n c 108 7 (pre ++ frD x a)] ++ frE x a) ++ memE 153 pg l)).Sublist ([Ent.box b7 131 (hasCells (hasF i.kind)), Ent.box b5 90 (insCells i)] ++ (([Ent.box s 64 (psD ps ob (.v (.slice (sg g) n c))), Ent.row (sg g) n c 108 7 (pre ++ frD x a)] ++ frE x a) ++ memE 153 pg l)) from List.sublist_append_right _ _)
  refine sp (rg (y3 (nl ?_)))
  refine ⟨k + 1, ⟨by omega, fun h => ?_⟩, by omega, sbZ, rfl⟩
  rw [take_gd hk1.1, okS_app, hka h, okS_one, Bool.true_and]
  simpa using h2f
 have hok := rd_all hr2 hk0 hka (by simpa using h1f)
 refine xt (sq (rs (y2 ?_)))
 refine nl (bk (rs (y2 (nl ?_))))
 refine cf fun _ => ?_
 refine rs (y2 (nl ?_))
 refine cf fun _ => ?_
 refine rs (y2 (nl ?_))
 refine cf fun _ => ?_
 refine rs (y2 (nl ?_))
 refine cf fun _ => ?_
 refine rs (y2 (nl ?_))
 refine cf fun _ => ?_
 refine rs (y2 (nl ?_))
 refine cf fun _ => ?_
 refine sq (rs (y2 (nl ?_)))
 refine cf fun _ => ?_
 refine rs (y2 (nl ?_))
 refine cf fun _ => ?_
 refine rs (y2 (nl ?_))
 refine cf fun _ => ?_
 refine rg (y2 (nl ?_))
 refine cf fun _ => ?_
 refine sp (rs (y3 ?_))
 refine cE ce_72 [Ent.box b7 131 (hasCells (hasF i.kind)), Ent.box b5 90 (insCells i)] _ rfl rfl rfl (Dvalue72L s g n c pg ps ob pre x a i l hx hpg hl hd hz0 hz1 hk ha1) ?_
 rintro t230 S230 ⟨rfl, rfl⟩
 refine y5 ?_
 refine nl (sq (rs (y2 (nl ?_))))
 refine cq (fun h13t => ?_) fun h13f => ?_
 ·have hlk : (sizeOk i.size && thereF (psData ps.prog) ps.heap (adF x i) (wI i.size)) = false := by simpa only [Bool.not_eq_true'] using h13t
  refine rs (y1 (nl ?_))
  refine rt ?_
  rw [hlk, Bool.and_false]
  refine ⟨rfl, ?_⟩
  rw [if_neg Bool.false_ne_true]
  exact (show ((([Ent.box s 64 (psD ps ob (.v (.slice (sg g) n c))), Ent.row (sg g) n c 108 7 (pre ++ frD x a)] ++ frE x a) ++ memE 153 pg l)).Sublist ([Ent.box b7 131 (hasCells (hasF i.kind)), Ent.box b5 90 (insCells i)] ++ (([Ent.box s 64 (psD ps ob (.v (.slice (sg g) n c))), Ent.row (sg g) n c 108 7 (pre ++ frD x a)] ++ frE x a) ++ memE 153 pg l)) from List.sublist_append_right _ _)
 have hlk : (sizeOk i.size && thereF (psData ps.prog) ps.heap (adF x i) (wI i.size)) = true := by simpa only [Bool.not_eq_false'] using h13f
 refine sp ?_
 refine AW.rseqP rfl ?_
 refine phn 8 1 ?_
 refine q8 (nq ?_)
 refine op 8 ?_
 refine y1 (nl ?_)
 refine dn ?_
 refine AW.rseqP rfl ?_
 refine phn 7 1 ?_
 refine q7 (nq ?_)
 refine op 7 ?_
 refine y1 (nl ?_)
 refine dn ?_
 refine rs (y8 ?_)
 refine nl (rs (y1 (nl ?_)))
 refine rt ?_
 rw [hok, hlk]
 refine ⟨rfl, ?_⟩
 rw [if_pos rfl]
 refine (List.sublist_append_right ([Ent.box b7 131 (hasCells (hasF i.kind)), Ent.box b5 90 (insCells i)]) ((([Ent.box s 64 (psD ps ob (.v (.slice (sg g) n c))), Ent.row (sg g) n c 108 7 (pre ++ frD (goF (setD x i.d (leF (getM l) (adF x i) i.size.toNat))) a)] ++ frE (goF (setD x i.d (leF (getM l) (adF x i) i.size.toNat))) a) ++ memE 153 pg l))).trans ?_
 rw [show frE (goF (setD x i.d (leF (getM l) (adF x i) i.size.toNat))) a = frE (setD x i.d (leF (getM l) (adF x i) i.size.toNat)) a from rfl, setE_rows, show frD (goF (setD x i.d (leF (getM l) (adF x i) i.size.toNat))) a = frD (goF x) a from rfl, show goF x = { x with at_ := x.at_ + 1 } from rfl, ← fd_jump]
 exact List.Sublist.refl _


theorem pSt {B F M : St} {P R : Ent} : ((B ++ (R :: F)) ++ (P :: M)).Perm (B ++ (([P, R] ++ F) ++ M)) := by
 rw [List.append_assoc]
 exact List.perm_middle.append_left B
theorem DstepSt_ (s g n c pg : Nat) (ps : PS) (ob : Bool) (pre : List T) (x : Fr) (a : FA) (i : Ins) (l : List Pg) (hx : FrOk x) (hpg : ps.pages = mapT pg) (hl : PgOk l) (hd : ps.prog.data.length ≤ 1048576) (hz0 : 0 ≤ ps.prog.zero) (hz1 : ps.prog.zero ≤ 268435456) (hk : i.kind = 18) (ha : (hasF i.kind).a = true → 0 ≤ i.a ∧ i.a < (x.nr : Int)) (hb : (hasF i.kind).b = true → 0 ≤ i.b ∧ i.b < (x.nr : Int)) (hdd : (hasF i.kind).d = true → 0 ≤ i.d ∧ i.d < (x.nr : Int)) (hg : (hasF i.kind).args = true → ∀ r ∈ i.args, 0 ≤ r ∧ r < (x.nr : Int)) (hgl : i.args.length ≤ 1048576) (hat : 0 ≤ x.at_ ∧ x.at_ ≤ 4611686018427387904) :
    ACalls Tryz.prog 38 [pv s, .ep (.slice (sg g) n c) pre.length, .agg (insCells i)] (([Ent.box s 64 (psD ps ob (.v (.slice (sg g) n c))), Ent.row (sg g) n c 108 7 (pre ++ frD x a)] ++ frE x a) ++ memE 153 pg l) (fun t S => t = bv ((okS x.set (readsF i)) && (sizeOk i.size && thereF (psData ps.prog) ps.heap (adF x i) (wI i.size))) ∧ ∃ l', ((([Ent.box s 64 (psD ps ob (.v (.slice (sg g) n c))), Ent.row (sg g) n c 108 7 (pre ++ frD (if (okS x.set (readsF i)) = true then goF x else x) a)] ++ frE (if (okS x.set (readsF i)) = true then goF x else x) a) ++ memE 153 pg l')).Sublist S ∧ PgOk l' ∧ getM l' = if ((okS x.set (readsF i)) && (sizeOk i.size && thereF (psData ps.prog) ps.heap (adF x i) (wI i.size))) = true then putsF (getM l) (adF x i) (rA x i.b) i.size.toNat else getM l) := by
 have hl1 := hx.r
 have hl3 := hx.t
 obtain ⟨hat0, hat1⟩ := hat
 obtain ⟨ha0, ha1⟩ := ha (by rw [hk]; rfl)
 obtain ⟨hb0, hb1⟩ := hb (by rw [hk]; rfl)
 refine ai Tryz.func38 Tryz.ntmps38 fun X w0 => ?_
 refine rs ?_
 refine bg fun b5 => ?_
 refine y1 ?_
 refine nl (rs (y2 ?_))
 refine kt (Of36 i.kind) ?_
 rintro t16 S16 rfl
 refine y3 ?_
 refine bg fun b7 => ?_
 refine y2 ?_
 refine nl (sq (rq (q9 ?_)))
 refine kT (ix (j := i.a.toNat) (hj := fun hg => ⟨(Int.toNat_of_nonneg (ha (by simpa using hg)).1).symm, by have h8 := ha (by simpa using hg); omega⟩)) ?_
 refine kT (lw (hr := fun hg => bool_at (by have h9 := ha (by simpa using hg); omega))) ?_
 refine q12 ?_
 refine kT (ix (j := i.b.toNat) (hj := fun hg => ⟨(Int.toNat_of_nonneg (hb (ar hg)).1).symm, by have h8 := hb (ar hg); omega⟩)) ?_
 refine kT (lw (hr := fun hg => bool_at (by have h9 := hb (ar hg); omega))) ?_
 refine q3 (nq ?_)
 refine cq (fun h0t => ?_) fun h0f => ?_
 ·have hbd := rd_bad (x := x) (i := i) (by simpa using h0t)
  refine rs (y1 (nl ?_))
  refine rt ?_
  rw [hbd, Bool.false_and]
  refine ⟨rfl, l, ?_, hl, ?_⟩
  ·rw [if_neg Bool.false_ne_true]
   exact (show ((([Ent.box s 64 (psD ps ob (.v (.slice (sg g) n c))), Ent.row (sg g) n c 108 7 (pre ++ frD x a)] ++ frE x a) ++ memE 153 pg l)).Sublist ([Ent.box b7 131 (hasCells (hasF i.kind)), Ent.box b5 90 (insCells i)] ++ (([Ent.box s 64 (psD ps ob (.v (.slice (sg g) n c))), Ent.row (sg g) n c 108 7 (pre ++ frD x a)] ++ frE x a) ++ memE 153 pg l)) from List.sublist_append_right _ _)
  rw [if_neg Bool.false_ne_true]
 have hr2 := rdE_ok (x := x) (i := i) (by simpa using h0f)
 refine sp (sq (rs (y1 ?_)))
 refine nl (bk ?_)
 refine lp1 (fun (k : Nat) => [(0, true, pv s), (1, true, .ep (.slice (sg g) n c) pre.length), (5, true, pv b5), (7, true, pv b7), (9, true, zv k)]) (fun (k : Nat) => ([Ent.box b7 131 (hasCells (hasF i.kind)), Ent.box b5 90 (insCells i)] ++ (([Ent.box s 64 (psD ps ob (.v (.slice (sg g) n c))), Ent.row (sg g) n c 108 7 (pre ++ frD x a)] ++ frE x a) ++ memE 153 pg l))) (fun (k : Nat) => k ≤ i.args.length ∧ ((hasF i.kind).args = true → okS x.set (i.args.take k) = true)) (fun (k : Nat) => i.args.length - k) 0 ?_ ?_
 ·exact ⟨Nat.zero_le _, fun _ => rfl⟩
 intro k ⟨hk0, hka⟩
 refine sq (rs (y9 (nl ?_)))
 refine cq (fun h1t => ?_) fun h1f => ?_
 ·have hk1 : k < i.args.length ∧ (hasF i.kind).args = true := by
   have h : (k : Int) < (i.args.length : Int) ∧ (hasF i.kind).args = true := by simpa using h1t
   exact ⟨by omega, h.2⟩
  have hkr := hg hk1.2 _ (getD_mem (l := i.args) hk1.1)
  refine sp (sq (bk (rq (q9 ?_))))
  refine Q1 (ix (j := (i.args.getD k default).toNat) (hj := fun hg => ⟨(Int.toNat_of_nonneg hkr.1).symm, by omega⟩)) ?_
  refine q2 (nq ?_)
  refine cq (fun h2t => ?_) fun h2f => ?_
  ·have hbd := rd_arg (x := x) (i := i) hk1.2 hk1.1 (by simpa using h2t)
   refine rs (y1 (nl ?_))
   refine rt ?_
   rw [hbd, Bool.false_and]
   refine ⟨rfl, l, ?_, hl, ?_⟩
   ·rw [if_neg Bool.false_ne_true]
    exact (show ((([Ent.box s 64 (psD ps ob (.v (.slice (sg g) n c))), Ent.row (sg g) n c 108 7 (pre ++ frD x a)] ++ frE x a) ++ memE 153 pg l)).Sublist ([Ent.box b7 131 (hasCells (hasF i.kind)), Ent.box b5 90 (insCells i)] ++ (([Ent.box s 64 (psD ps ob (.v (.slice (sg g) n c))), Ent.row (sg g) n c 108 7 (pre ++ frD x a)] ++ frE x a) ++ memE 153 pg l)) from List.sublist_append_right _ _)
   rw [if_neg Bool.false_ne_true]
  refine sp (rg (y3 (nl ?_)))
  refine ⟨k + 1, ⟨by omega, fun h => ?_⟩, by omega, sbZ, rfl⟩
  rw [take_gd hk1.1, okS_app, hka h, okS_one, Bool.true_and]
  simpa using h2f
 have hok := rd_all hr2 hk0 hka (by simpa using h1f)
 refine xt (sq (rs (y2 ?_)))
 refine nl (bk (rs (y2 (nl ?_))))
 refine cf fun _ => ?_
 refine rs (y2 (nl ?_))
 refine cf fun _ => ?_
 refine rs (y2 (nl ?_))
 refine ct fun _ => ?_
 refine rs (y8 (nl ?_))
 refine AW.eqS (S' := [Ent.box b7 131 (hasCells (hasF i.kind)), Ent.box b5 90 (insCells i)] ++ (([Ent.box s 64 (psD ps ob (.v (.slice (sg g) n c))), Ent.row (sg g) n c 108 7 (pre ++ frD (goF x) a)] ++ frE (goF x) a) ++ memE 153 pg l)) (by rw [show (pre ++ frD (goF x) a) = (pre ++ frD x a).set (pre.length + 1) (zi (x.at_ + 1)) from (fd_jump _).symm]; rfl) ?_
 refine AW.rseqP rfl ?_
 refine phn 23 2 ?_
 refine q7 ?_
 refine Q1 (ix (j := i.a.toNat) (hj := fun hg => ⟨(Int.toNat_of_nonneg ha0).symm, show i.a.toNat < x.nr by omega⟩)) ?_
 refine Q1 (lw (hr := fun hg => word_at (show i.a.toNat < x.r.length by omega))) ?_
 refine q2 ?_
 refine Q1 (Yv.convW rfl Tryz.underlying2 kd_29 eV) ?_
 refine Q1 (Yv.addW rfl eV eV) ?_
 refine q8 ?_
 refine Q1 (ix (j := i.b.toNat) (hj := fun hg => ⟨(Int.toNat_of_nonneg hb0).symm, show i.b.toNat < x.nr by omega⟩)) ?_
 refine Q1 (lw (hr := fun hg => word_at (show i.b.toNat < x.r.length by omega))) ?_
 refine nq ?_
 refine op 23 ?_
 refine AWL.perm (S' := ([Ent.box b7 131 (hasCells (hasF i.kind)), Ent.box b5 90 (insCells i)] ++ (Ent.row (sg g) n c 108 7 (pre ++ frD (goF x) a) :: frE (goF x) a)) ++ (Ent.box s 64 (psD ps ob (.v (.slice (sg g) n c))) :: memE 153 pg l)) pSt ?_
 refine cE ce_18 ([Ent.box b7 131 (hasCells (hasF i.kind)), Ent.box b5 90 (insCells i)] ++ (Ent.row (sg g) n c 108 7 (pre ++ frD (goF x) a) :: frE (goF x) a)) _ rfl rfl rfl (DStore18 s pg ps ob (.v (.slice (sg g) n c)) l hpg hl hd hz0 hz1 (adF x i) i.size (rA x i.b)) ?_
 rintro t167 S167 ⟨rfl, l2, rfl, hl2, hm2⟩
 refine AWL.perm (S' := [Ent.box b7 131 (hasCells (hasF i.kind)), Ent.box b5 90 (insCells i)] ++ (([Ent.box s 64 (psD ps ob (.v (.slice (sg g) n c))), Ent.row (sg g) n c 108 7 (pre ++ frD (goF x) a)] ++ frE (goF x) a) ++ memE 153 pg l2)) pSt.symm (nl ?_)
 refine op 24 ?_
 refine y1 (nl ?_)
 refine dn ?_
 refine rt ?_
 rw [hok, Bool.true_and]
 refine ⟨rfl, l2, ?_, hl2, hm2⟩
 rw [if_pos rfl]
 exact (show ((([Ent.box s 64 (psD ps ob (.v (.slice (sg g) n c))), Ent.row (sg g) n c 108 7 (pre ++ frD (goF x) a)] ++ frE (goF x) a) ++ memE 153 pg l2)).Sublist ([Ent.box b7 131 (hasCells (hasF i.kind)), Ent.box b5 90 (insCells i)] ++ (([Ent.box s 64 (psD ps ob (.v (.slice (sg g) n c))), Ent.row (sg g) n c 108 7 (pre ++ frD (goF x) a)] ++ frE (goF x) a) ++ memE 153 pg l2)) from List.sublist_append_right _ _)

def JQD (s g c k : Nat) (ps : PS) (ob : Bool) (pre : List T) (x : Fr) (a : FA) (i : Ins) (b : Bool) (S : St) : Prop :=
 match calleeF ps.prog x i with
 | none => b = false ∧ S = [Ent.box s 64 (psD ps ob (.v (.slice (sg g) (k + 1) c))), Ent.row (sg g) (k + 1) c 108 7 (pre ++ frD x a)] ++ frE x a
 | some f => if i.kind = 24 ∨ i.kind = 25 then b = true ∧ ∃ g' c' a', S = [Ent.box s 64 (psD ps ob (.v (.slice (some ⟨g', 0, none⟩) (k + 1) c'))), Ent.row (some ⟨g', 0, none⟩) (k + 1) c' 108 7 (pre ++ frD (openFr (ps.prog.funs.getD f default) f (argsF x i) x.d) a')] ++ frE (openFr (ps.prog.funs.getD f default) f (argsF x i) x.d) a'
  else if 1048576 ≤ k + 1 then b = false ∧ S = [Ent.box s 64 (psD ps ob (.v (.slice (sg g) (k + 1) c))), Ent.row (sg g) (k + 1) c 108 7 (pre ++ frD x a)] ++ frE x a
  else b = true ∧ ∃ g' c' a', S = [Ent.box s 64 (psD ps ob (.v (.slice (some ⟨g', 0, none⟩) (k + 2) c'))), Ent.row (some ⟨g', 0, none⟩) (k + 2) c' 108 7 (pre ++ frD (callF ps.strict x) a ++ frD (openFr (ps.prog.funs.getD f default) f (argsF x i) i.d) a')] ++ frE (openFr (ps.prog.funs.getD f default) f (argsF x i) i.d) a' ++ frE (callF ps.strict x) a
theorem Dgoes71 (s g c k : Nat) (ps : PS) (ob : Bool) (pre : List T) (x : Fr) (a : FA) (i : Ins) (hx : FrOk x) (hnr : x.nr ≤ 65536) (hpre : pre.length = k * 7) (hk : k < 1048576) (hkd : i.kind = 22 ∨ i.kind = 23 ∨ i.kind = 24 ∨ i.kind = 25) (hp : ProgOk ps.prog) (hpf : ps.prog.funs.length ≤ 1048576) (ha : (hasF i.kind).a = true → 0 ≤ i.a ∧ i.a < (x.nr : Int)) (har : ∀ r ∈ i.args, 0 ≤ r ∧ r < (x.nr : Int)) (hg : i.args.length ≤ 1048576) (hf : (hasF i.kind).f = true → (0 ≤ i.f ∧ i.f.toNat < ps.prog.funs.length) ∧ (i.args.length : Int) = parF ps.prog i.f) (hat : 0 ≤ x.at_ ∧ x.at_ ≤ 4611686018427387904) : ACalls Tryz.prog 71 [pv s, .ep (.slice (sg g) (k + 1) c) pre.length, .agg (insCells i)] ([Ent.box s 64 (psD ps ob (.v (.slice (sg g) (k + 1) c))), Ent.row (sg g) (k + 1) c 108 7 (pre ++ frD x a)] ++ frE x a) (fun t S => ∃ b, t = bv b ∧ JQD s g c k ps ob pre x a i b S) :=
 (Dgoes71_ s g c k ps ob pre x a i hx hnr hpre hk hkd hp hpf ha har hg hf hat).less fun t S' h => by
  unfold JQD
  cases hc : calleeF ps.prog x i with
  | none =>
   rw [hc] at h
   exact ⟨_, h.2, false, h.1, rfl, rfl⟩
  | some f =>
   rw [hc] at h
   dsimp only at h ⊢
   split at h
   ·rename_i h24
    simp only [if_pos h24]
    obtain ⟨h1, g', c', a', h2⟩ := h
    exact ⟨_, h2, true, h1, rfl, g', c', a', rfl⟩
   ·rename_i h24
    simp only [if_neg h24]
    split at h
    ·rename_i hm
     simp only [if_pos hm]
     exact ⟨_, h.2, false, h.1, rfl, rfl⟩
    ·rename_i hm
     simp only [if_neg hm]
     obtain ⟨h1, g', c', a', h2⟩ := h
     exact ⟨_, h2, true, h1, rfl, g', c', a', rfl⟩
theorem DstepC_ (s g c k : Nat) (ps : PS) (ob : Bool) (pre : List T) (x : Fr) (a : FA) (i : Ins) (hx : FrOk x) (hnr : x.nr ≤ 65536) (hpre : pre.length = k * 7) (hk : k < 1048576) (hkd : i.kind = 22 ∨ i.kind = 23 ∨ i.kind = 24 ∨ i.kind = 25) (hp : ProgOk ps.prog) (hpf : ps.prog.funs.length ≤ 1048576) (ha : (hasF i.kind).a = true → 0 ≤ i.a ∧ i.a < (x.nr : Int)) (har : ∀ r ∈ i.args, 0 ≤ r ∧ r < (x.nr : Int)) (hg : i.args.length ≤ 1048576) (hag : (hasF i.kind).args = true → ∀ r ∈ i.args, 0 ≤ r ∧ r < (x.nr : Int)) (hb : (hasF i.kind).b = true → 0 ≤ i.b ∧ i.b < (x.nr : Int)) (hf : (hasF i.kind).f = true → (0 ≤ i.f ∧ i.f.toNat < ps.prog.funs.length) ∧ (i.args.length : Int) = parF ps.prog i.f) (hat : 0 ≤ x.at_ ∧ x.at_ ≤ 4611686018427387904) :
    ACalls Tryz.prog 38 [pv s, .ep (.slice (sg g) (k + 1) c) pre.length, .agg (insCells i)] ([Ent.box s 64 (psD ps ob (.v (.slice (sg g) (k + 1) c))), Ent.row (sg g) (k + 1) c 108 7 (pre ++ frD x a)] ++ frE x a) (fun t S => (okS x.set (readsF i) = false ∧ t = bv false ∧ ([Ent.box s 64 (psD ps ob (.v (.slice (sg g) (k + 1) c))), Ent.row (sg g) (k + 1) c 108 7 (pre ++ frD x a)] ++ frE x a).Sublist S) ∨ (okS x.set (readsF i) = true ∧ ∃ b S', t = bv b ∧ JQD s g c k ps ob pre x a i b S' ∧ S'.Sublist S)) := by
 have hl3 := hx.t
 have hgl := hg
 refine ai Tryz.func38 Tryz.ntmps38 fun X w0 => ?_
 refine rs ?_
 refine bx fun b5 => ?_
 refine y1 ?_
 refine nl (rs (y2 ?_))
 refine kt (Of36 i.kind) ?_
 rintro t16 S16 rfl
 refine y3 ?_
 refine bx fun b7 => ?_
 refine y2 ?_
 refine nl (sq (rq (q9 ?_)))
 refine kT (ix (j := i.a.toNat) (hj := fun hg => ⟨(Int.toNat_of_nonneg (ha (by simpa using hg)).1).symm, by have h8 := ha (by simpa using hg); omega⟩)) ?_
 refine kT (lw (hr := fun hg => bool_at (by have h9 := ha (by simpa using hg); omega))) ?_
 refine q12 ?_
 refine kT (ix (j := i.b.toNat) (hj := fun hg => ⟨(Int.toNat_of_nonneg (hb (ar hg)).1).symm, by have h8 := hb (ar hg); omega⟩)) ?_
 refine kT (lw (hr := fun hg => bool_at (by have h9 := hb (ar hg); omega))) ?_
 refine q3 (nq ?_)
 refine cq (fun h0t => ?_) fun h0f => ?_
 ·have hbd := rd_bad (x := x) (i := i) (by simpa using h0t)
  refine rs (y1 (nl ?_))
  refine rt ?_
  exact .inl ⟨hbd, rfl, List.sublist_append_left _ _⟩
 have hr2 := rdE_ok (x := x) (i := i) (by simpa using h0f)
 refine sp (sq (rs (y1 ?_)))
 refine nl (bk ?_)
 refine lp1 (fun (q0 : Nat) => [(0, true, pv s), (1, true, .ep (.slice (sg g) (k + 1) c) pre.length), (5, true, pv b5), (7, true, pv b7), (9, true, zv q0)]) (fun (q0 : Nat) => (([Ent.box s 64 (psD ps ob (.v (.slice (sg g) (k + 1) c))), Ent.row (sg g) (k + 1) c 108 7 (pre ++ frD x a)] ++ frE x a) ++ [Ent.box b5 90 (insCells i), Ent.box b7 131 (hasCells (hasF i.kind))])) (fun (q0 : Nat) => q0 ≤ i.args.length ∧ ((hasF i.kind).args = true → okS x.set (i.args.take q0) = true)) (fun (q0 : Nat) => i.args.length - q0) 0 ?_ ?_
 ·exact ⟨Nat.zero_le _, fun _ => rfl⟩
 intro q0 ⟨hk0, hka⟩
 refine sq (rs (y9 (nl ?_)))
 refine cq (fun h1t => ?_) fun h1f => ?_
 ·have hk1 : q0 < i.args.length ∧ (hasF i.kind).args = true := by
   have h : (q0 : Int) < (i.args.length : Int) ∧ (hasF i.kind).args = true := by simpa using h1t
   exact ⟨by omega, h.2⟩
  have hkr := hag hk1.2 _ (getD_mem (l := i.args) hk1.1)
  refine sp (sq (bk (rq (q9 ?_))))
  refine Q1 (ix (j := (i.args.getD q0 default).toNat) (hj := fun hg => ⟨(Int.toNat_of_nonneg hkr.1).symm, by omega⟩)) ?_
  refine q2 (nq ?_)
  refine cq (fun h2t => ?_) fun h2f => ?_
  ·have hbd := rd_arg (x := x) (i := i) hk1.2 hk1.1 (by simpa using h2t)
   refine rs (y1 (nl ?_))
   refine rt ?_
   exact .inl ⟨hbd, rfl, List.sublist_append_left _ _⟩
  refine sp (rg (y3 (nl ?_)))
  refine ⟨q0 + 1, ⟨by omega, fun h => ?_⟩, by omega, sbZ, rfl⟩
  rw [take_gd hk1.1, okS_app, hka h, okS_one, Bool.true_and]
  simpa using h2f
 have hok := rd_all hr2 hk0 hka (by simpa using h1f)
 refine xt (sq (rs (y2 ?_)))
 refine nl (bk (rs (y2 (nl ?_))))
 refine cf fun _ => ?_
 refine rs (y2 (nl ?_))
 refine cf fun _ => ?_
 refine rs (y2 (nl ?_))
 refine cf fun _ => ?_
 refine rs (y2 (nl ?_))
 refine cf fun _ => ?_
 refine rs (y2 (nl ?_))
 refine cf fun _ => ?_
 refine rs (y2 (nl ?_))
 refine cf fun _ => ?_
 refine sq (rs (y2 (nl ?_)))
 refine cq (fun _ => ?_) fun _ => ?_
 ·refine sp ?_
  refine ct fun _ => ?_
  refine rs (y3 ?_)
  refine kc (Dgoes71 s g c k ps ob pre x a i hx hnr hpre hk hkd hp hpf ha har hg hf hat) ?_
  rintro t225 S225 ⟨b, rfl, hJ⟩
  refine y1 (nl ?_)
  refine rt ?_
  exact .inr ⟨hok, b, _, rfl, hJ, List.sublist_append_left _ _⟩
 refine rs (y2 (nl ?_))
 refine cq (fun _ => ?_) fun _ => ?_
 ·refine sp ?_
  refine ct fun _ => ?_
  refine rs (y3 ?_)
  refine kc (Dgoes71 s g c k ps ob pre x a i hx hnr hpre hk hkd hp hpf ha har hg hf hat) ?_
  rintro t225 S225 ⟨b, rfl, hJ⟩
  refine y1 (nl ?_)
  refine rt ?_
  exact .inr ⟨hok, b, _, rfl, hJ, List.sublist_append_left _ _⟩
 refine rs (y2 (nl ?_))
 refine cq (fun _ => ?_) fun _ => ?_
 ·refine sp ?_
  refine ct fun _ => ?_
  refine rs (y3 ?_)
  refine kc (Dgoes71 s g c k ps ob pre x a i hx hnr hpre hk hkd hp hpf ha har hg hf hat) ?_
  rintro t225 S225 ⟨b, rfl, hJ⟩
  refine y1 (nl ?_)
  refine rt ?_
  exact .inr ⟨hok, b, _, rfl, hJ, List.sublist_append_left _ _⟩
 refine rg (y2 (nl ?_))
 refine ct fun _ => ?_
 refine rs (y3 ?_)
 refine kc (Dgoes71 s g c k ps ob pre x a i hx hnr hpre hk hkd hp hpf ha har hg hf hat) ?_
 rintro t225 S225 ⟨b, rfl, hJ⟩
 refine y1 (nl ?_)
 refine rt ?_
 exact .inr ⟨hok, b, _, rfl, hJ, List.sublist_append_left _ _⟩


theorem DstepR1_ (s g c : Nat) (ps : PS) (ob : Bool) (x : Fr) (a : FA) (i : Ins) (hx : FrOk x) (hk : i.kind = 26) (ha : (hasF i.kind).a = true → 0 ≤ i.a ∧ i.a < (x.nr : Int)) (hb : (hasF i.kind).b = true → 0 ≤ i.b ∧ i.b < (x.nr : Int)) (hg : (hasF i.kind).args = true → ∀ r ∈ i.args, 0 ≤ r ∧ r < (x.nr : Int)) (hgl : i.args.length ≤ 1048576) :
    ACalls Tryz.prog 38 [pv s, .ep (.slice (sg g) 1 c) ([] : List T).length, .agg (insCells i)] ([Ent.box s 64 (psD ps ob (.v (.slice (sg g) 1 c))), Ent.row (sg g) 1 c 108 7 (([] : List T) ++ frD x a)] ++ frE x a) (fun t S => t = bv (okS x.set (readsF i)) ∧ (([Ent.box s 64 (psD (if (okS x.set (readsF i)) = true then backP ps (rA x i.a) else ps) ob (.v (.slice (sg g) 1 c))), Ent.row (sg g) 1 c 108 7 (([] : List T) ++ frD x a)] ++ frE x a)).Sublist S) := by
 have hl1 := hx.r
 have hl3 := hx.t
 obtain ⟨ha0, ha1⟩ := ha (by rw [hk]; rfl)
 refine ai Tryz.func38 Tryz.ntmps38 fun X w0 => ?_
 refine rs ?_
 refine bx fun b5 => ?_
 refine y1 ?_
 refine nl (rs (y2 ?_))
 refine kt (Of36 i.kind) ?_
 rintro t16 S16 rfl
 refine y3 ?_
 refine bx fun b7 => ?_
 refine y2 ?_
 refine nl (sq (rq (q6 ?_)))
 refine kT (Yv.loadEp rfl ag_102 (i := 1) rfl (Eg rfl rfl id) (fun _ => rfl)) ?_
 refine q2 ?_
 refine kT (ix (j := i.a.toNat) (hj := fun hg => ⟨(Int.toNat_of_nonneg (ha (by simpa using hg)).1).symm, by have h8 := ha (by simpa using hg); omega⟩)) ?_
 refine kT (lw (hr := fun hg => bool_at (by have h9 := ha (by simpa using hg); omega))) ?_
 refine q9 ?_
 refine kT (Yv.loadEp rfl ag_102 (i := 1) rfl (Eg rfl rfl id) (fun _ => rfl)) ?_
 refine q2 ?_
 refine kT (ix (j := i.b.toNat) (hj := fun hg => ⟨(Int.toNat_of_nonneg (hb (ar hg)).1).symm, by have h8 := hb (ar hg); omega⟩)) ?_
 refine kT (lw (hr := fun hg => bool_at (by have h9 := hb (ar hg); omega))) ?_
 refine q3 (nq ?_)
 refine cq (fun h0t => ?_) fun h0f => ?_
 ·have hbd := rd_bad (x := x) (i := i) (by simpa using h0t)
  refine rs (y1 (nl ?_))
  refine rt ?_
  rw [hbd]
  refine ⟨rfl, ?_⟩
  rw [if_neg Bool.false_ne_true]
  exact (show (([Ent.box s 64 (psD ps ob (.v (.slice (sg g) 1 c))), Ent.row (sg g) 1 c 108 7 (([] : List T) ++ frD x a)] ++ frE x a)).Sublist (([Ent.box s 64 (psD ps ob (.v (.slice (sg g) 1 c))), Ent.row (sg g) 1 c 108 7 (([] : List T) ++ frD x a)] ++ frE x a) ++ [Ent.box b5 90 (insCells i), Ent.box b7 131 (hasCells (hasF i.kind))]) from List.sublist_append_left _ _)
 have hr2 := rdE_ok (x := x) (i := i) (by simpa using h0f)
 refine sp (sq (rs (y1 ?_)))
 refine nl (bk ?_)
 refine lp1 (fun (k : Nat) => [(0, true, pv s), (1, true, .ep (.slice (sg g) 1 c) ([] : List T).length), (5, true, pv b5), (7, true, pv b7), (9, true, zv k)]) (fun (k : Nat) => (([Ent.box s 64 (psD ps ob (.v (.slice (sg g) 1 c))), Ent.row (sg g) 1 c 108 7 (([] : List T) ++ frD x a)] ++ frE x a) ++ [Ent.box b5 90 (insCells i), Ent.box b7 131 (hasCells (hasF i.kind))])) (fun (k : Nat) => k ≤ i.args.length ∧ ((hasF i.kind).args = true → okS x.set (i.args.take k) = true)) (fun (k : Nat) => i.args.length - k) 0 ?_ ?_
 ·exact ⟨Nat.zero_le _, fun _ => rfl⟩
 intro k ⟨hk0, hka⟩
 refine sq (rs (y9 (nl ?_)))
 refine cq (fun h1t => ?_) fun h1f => ?_
 ·have hk1 : k < i.args.length ∧ (hasF i.kind).args = true := by
   have h : (k : Int) < (i.args.length : Int) ∧ (hasF i.kind).args = true := by simpa using h1t
   exact ⟨by omega, h.2⟩
  have hkr := hg hk1.2 _ (getD_mem (l := i.args) hk1.1)
  refine sp (sq (bk (rq (q3 ?_))))
  refine Q1 (Yv.loadEp rfl ag_102 (i := 1) rfl eV (fun _ => rfl)) ?_
  refine q5 ?_
  refine Q1 (ix (j := (i.args.getD k default).toNat) (hj := fun hg => ⟨(Int.toNat_of_nonneg hkr.1).symm, by omega⟩)) ?_
  refine q2 (nq ?_)
  refine cq (fun h2t => ?_) fun h2f => ?_
  ·have hbd := rd_arg (x := x) (i := i) hk1.2 hk1.1 (by simpa using h2t)
   refine rs (y1 (nl ?_))
   refine rt ?_
   rw [hbd]
   refine ⟨rfl, ?_⟩
   rw [if_neg Bool.false_ne_true]
   exact (show (([Ent.box s 64 (psD ps ob (.v (.slice (sg g) 1 c))), Ent.row (sg g) 1 c 108 7 (([] : List T) ++ frD x a)] ++ frE x a)).Sublist (([Ent.box s 64 (psD ps ob (.v (.slice (sg g) 1 c))), Ent.row (sg g) 1 c 108 7 (([] : List T) ++ frD x a)] ++ frE x a) ++ [Ent.box b5 90 (insCells i), Ent.box b7 131 (hasCells (hasF i.kind))]) from List.sublist_append_left _ _)
  refine sp (rg (y3 (nl ?_)))
  refine ⟨k + 1, ⟨by omega, fun h => ?_⟩, by omega, sbZ, rfl⟩
  rw [take_gd hk1.1, okS_app, hka h, okS_one, Bool.true_and]
  simpa using h2f
 have hok := rd_all hr2 hk0 hka (by simpa using h1f)
 refine xt (sq (rs (y2 ?_)))
 refine nl (bk (rs (y2 (nl ?_))))
 refine cf fun _ => ?_
 refine rs (y2 (nl ?_))
 refine cf fun _ => ?_
 refine rs (y2 (nl ?_))
 refine cf fun _ => ?_
 refine rs (y2 (nl ?_))
 refine cf fun _ => ?_
 refine rs (y2 (nl ?_))
 refine cf fun _ => ?_
 refine rs (y2 (nl ?_))
 refine ct fun _ => ?_
 refine AW.rseqP rfl ?_
 refine phn 9 1 ?_
 refine q4 ?_
 refine Q1 (Yv.loadEp rfl ag_30 (i := 1) rfl eV (fun _ => rfl)) ?_
 refine q4 (nq ?_)
 refine op 9 ?_
 refine kc (DbackOne s g c ps ob x a (rA x i.a)) ?_
 rintro t216 S216 ⟨rfl, rfl⟩
 refine nl ?_
 refine dn ?_
 refine rs (y1 (nl ?_))
 refine rt ?_
 rw [hok]
 refine ⟨rfl, ?_⟩
 rw [if_pos rfl]
 exact (show (([Ent.box s 64 (psD (backP ps (rA x i.a)) ob (.v (.slice (sg g) 1 c))), Ent.row (sg g) 1 c 108 7 (([] : List T) ++ frD x a)] ++ frE x a)).Sublist (([Ent.box s 64 (psD (backP ps (rA x i.a)) ob (.v (.slice (sg g) 1 c))), Ent.row (sg g) 1 c 108 7 (([] : List T) ++ frD x a)] ++ frE x a) ++ [Ent.box b5 90 (insCells i), Ent.box b7 131 (hasCells (hasF i.kind))]) from List.sublist_append_left _ _)

theorem pR2 {X Y E B : St} : ((X ++ Y) ++ (E ++ B)).Perm (((X ++ E) ++ Y) ++ B) := by
 rw [List.append_assoc, List.append_assoc, List.append_assoc]
 exact (List.perm_append_comm_assoc Y E B).append_left X
theorem DstepRM_ (s g c k : Nat) (ps : PS) (ob : Bool) (pre : List T) (y : Fr) (b : FA) (x : Fr) (a : FA) (i : Ins) (hpre : pre.length = k * 7) (hk7 : k ≤ 1048576) (hy : FrOk y) (hd : 0 ≤ x.d ∧ x.d < (y.nr : Int)) (hx : FrOk x) (hk : i.kind = 26) (ha : (hasF i.kind).a = true → 0 ≤ i.a ∧ i.a < (x.nr : Int)) (hb : (hasF i.kind).b = true → 0 ≤ i.b ∧ i.b < (x.nr : Int)) (hg : (hasF i.kind).args = true → ∀ r ∈ i.args, 0 ≤ r ∧ r < (x.nr : Int)) (hgl : i.args.length ≤ 1048576) :
    ACalls Tryz.prog 38 [pv s, .ep (.slice (sg g) (k + 2) c) (pre ++ frD y b).length, .agg (insCells i)] (([Ent.box s 64 (psD ps ob (.v (.slice (sg g) (k + 2) c))), Ent.row (sg g) (k + 2) c 108 7 (pre ++ frD y b ++ frD x a)] ++ frE x a) ++ frE y b) (fun t S => (okS x.set (readsF i) = false ∧ t = bv false ∧ ((([Ent.box s 64 (psD ps ob (.v (.slice (sg g) (k + 2) c))), Ent.row (sg g) (k + 2) c 108 7 (pre ++ frD y b ++ frD x a)] ++ frE x a) ++ frE y b)).Sublist S) ∨ (okS x.set (readsF i) = true ∧ t = bv true ∧ (([Ent.box s 64 (psD ps ob (.v (.slice (sg g) (k + 1) c))), Ent.row (sg g) (k + 1) c 108 7 (pre ++ frD y b)] ++ frE (setD y x.d (rA x i.a)) b)).Sublist S)) := by
 have hl1 := hx.r
 have hl3 := hx.t
 obtain ⟨ha0, ha1⟩ := ha (by rw [hk]; rfl)
 refine ai Tryz.func38 Tryz.ntmps38 fun X w0 => ?_
 refine rs ?_
 refine bx fun b5 => ?_
 refine y1 ?_
 refine nl (rs (y1 ?_))
 refine yl ag_3 10 ?_
 refine kt (Of36 i.kind) ?_
 rintro t16 S16 rfl
 refine y3 ?_
 refine bx fun b7 => ?_
 refine y2 ?_
 refine nl (sq (rq (q1 ?_)))
 refine ql ag_4 11 ?_
 refine q6 ?_
 refine kT (Yv.loadBox rfl ag_3 (i := 10) rfl (Eg rfl rfl id) rfl) ?_
 refine kT (ix (j := i.a.toNat) (hj := fun hg => ⟨(Int.toNat_of_nonneg (ha (by simpa using hg)).1).symm, by have h8 := ha (by simpa using hg); omega⟩)) ?_
 refine kT (lw (hr := fun hg => bool_at (by have h9 := ha (by simpa using hg); omega))) ?_
 refine q4 ?_
 refine kF (Yv.loadBox rfl ag_4 (i := 11) rfl (Eg rfl rfl id) rfl) ?_
 refine q6 ?_
 refine kT (Yv.loadBox rfl ag_3 (i := 10) rfl (Eg rfl rfl id) rfl) ?_
 refine kT (ix (j := i.b.toNat) (hj := fun hg => ⟨(Int.toNat_of_nonneg (hb (ar hg)).1).symm, by have h8 := hb (ar hg); omega⟩)) ?_
 refine kT (lw (hr := fun hg => bool_at (by have h9 := hb (ar hg); omega))) ?_
 refine q3 (nq ?_)
 refine cq (fun h0t => ?_) fun h0f => ?_
 ·have hbd := rd_bad (x := x) (i := i) (by simpa using h0t)
  refine rs (y1 (nl ?_))
  refine rt ?_
  exact .inl ⟨hbd, rfl, List.sublist_append_left _ _⟩
 have hr2 := rdE_ok (x := x) (i := i) (by simpa using h0f)
 refine sp (sq (rs (y1 ?_)))
 refine nl (bk ?_)
 refine lp1 (fun (q0 : Nat) => [(0, true, pv s), (1, true, .ep (.slice (sg g) (k + 2) c) (pre ++ frD y b).length), (5, true, pv b5), (7, true, pv b7), (9, true, zv q0)]) (fun (q0 : Nat) => ((([Ent.box s 64 (psD ps ob (.v (.slice (sg g) (k + 2) c))), Ent.row (sg g) (k + 2) c 108 7 (pre ++ frD y b ++ frD x a)] ++ frE x a) ++ frE y b) ++ [Ent.box b5 90 (insCells i), Ent.box b7 131 (hasCells (hasF i.kind))])) (fun (q0 : Nat) => q0 ≤ i.args.length ∧ ((hasF i.kind).args = true → okS x.set (i.args.take q0) = true)) (fun (q0 : Nat) => i.args.length - q0) 0 ?_ ?_
 ·exact ⟨Nat.zero_le _, fun _ => rfl⟩
 intro q0 ⟨hk0, hka⟩
 refine sq (rs (y2 ?_))
 refine yl ag_88 10 ?_
 refine y4 ?_
 refine gT (Yv.loadBox rfl ag_4 (i := 11) rfl (Eg rfl rfl id) rfl) ?_
 refine y1 (nl ?_)
 refine cq (fun h1t => ?_) fun h1f => ?_
 ·have hk1 : q0 < i.args.length ∧ (hasF i.kind).args = true := by
   have h : (q0 : Int) < (i.args.length : Int) ∧ (hasF i.kind).args = true := by simpa using h1t
   exact ⟨by omega, h.2⟩
  have hkr := hg hk1.2 _ (getD_mem (l := i.args) hk1.1)
  refine sp (sq (bk (rq (q5 ?_))))
  refine ql ag_88 10 ?_
  refine q3 ?_
  refine Q1 (ix (j := (i.args.getD q0 default).toNat) (hj := fun hg => ⟨(Int.toNat_of_nonneg hkr.1).symm, by omega⟩)) ?_
  refine q2 (nq ?_)
  refine cq (fun h2t => ?_) fun h2f => ?_
  ·have hbd := rd_arg (x := x) (i := i) hk1.2 hk1.1 (by simpa using h2t)
   refine rs (y1 (nl ?_))
   refine rt ?_
   exact .inl ⟨hbd, rfl, List.sublist_append_left _ _⟩
  refine sp (rg (y3 (nl ?_)))
  refine ⟨q0 + 1, ⟨by omega, fun h => ?_⟩, by omega, sbZ, rfl⟩
  rw [take_gd hk1.1, okS_app, hka h, okS_one, Bool.true_and]
  simpa using h2f
 have hok := rd_all hr2 hk0 hka (by simpa using h1f)
 refine xt (sq (rs (y1 ?_)))
 refine yl ag_3 10 ?_
 refine nl (bk (rs (y2 (nl ?_))))
 refine cf fun _ => ?_
 refine rs (y2 (nl ?_))
 refine cf fun _ => ?_
 refine rs (y2 (nl ?_))
 refine cf fun _ => ?_
 refine rs (y2 (nl ?_))
 refine cf fun _ => ?_
 refine rs (y2 (nl ?_))
 refine cf fun _ => ?_
 refine rs (y2 (nl ?_))
 refine ct fun _ => ?_
 refine AW.rseqP rfl ?_
 refine phn 9 1 ?_
 refine q6 ?_
 refine ql ag_3 10 ?_
 refine q2 (nq ?_)
 refine op 9 ?_
 refine AWL.perm (S' := ([Ent.box s 64 (psD ps ob (.v (.slice (sg g) (k + 2) c))), Ent.row (sg g) (k + 2) c 108 7 (pre ++ frD y b ++ frD x a)] ++ frE y b) ++ (frE x a ++ [Ent.box b5 90 (insCells i), Ent.box b7 131 (hasCells (hasF i.kind))])) pR2 ?_
 refine kc (DbackMore s g c k ps ob pre y b x a (rA x i.a) hpre hk7 hy hd) ?_
 rintro t216 S216 ⟨rfl, rfl⟩
 refine nl ?_
 refine dn ?_
 refine rs (y1 (nl ?_))
 refine rt ?_
 exact .inr ⟨hok, rfl, List.sublist_append_left _ _⟩


theorem pmD {α : Type} {a0 a1 a2 a3 : α} {Z : List α} : (a0 :: a2 :: a1 :: a3 :: Z).Perm (a0 :: a1 :: a2 :: a3 :: Z) := pk
def SPn (L : Lay) (c : Pc) (x : Fr) (g cc : Nat) (a : FA) (l : List Pg) : St := p6 L c x g cc a [] ++ (memE 129 L.pg l ++ labE L c.prog)
theorem New13 (p : Prog) (heap : Wd64) (strict : Bool) (wb : Nat) (hp : ProgIn p) (hok : ProgOk p) (hc : checkW p = 0) (hh : ¬ heap < 65536#64) (hh2 : ¬ 1099511627776#64 < heap) :
    ACalls Tryz.prog 6 [.agg (progCells p), zw heap, bv strict, pv wb] [] (fun t S => ∃ b41 b39 gl c bs g c2 a l, t = .tup [pv b41, zi 0] ∧ bs.length = p.funs.length ∧ PgOk l ∧ getM l = initM p ∧ S = SPn ⟨b41, gl, c, b39, wb, 0, bs⟩ (newC p heap strict) (newX p) g c2 a l) := by
 have hpf := hp.funs
 have hdl := hp.data
 have hf1 := fn_regs hok hok.some
 have hf0 := hok.some
 refine ai Tryz.func6 Tryz.ntmps6 fun X w0 => ?_
 refine rs ?_
 refine bx fun b4 => ?_
 refine y2 ?_
 refine nl (sq (rs (y1 ?_)))
 refine kp (Check6 p hp) ?_
 refine y1 ?_
 refine nl (rs (y2 (nl ?_)))
 refine cq (fun h0t => ?_) fun _ => ?_
 ·exact absurd hc (by simpa using h0t)
 refine sp (sq (rs (y1 ?_)))
 refine Y1 (Yv.lssW (b := 65536#64) rfl eV eV) ?_
 refine y2 ?_
 refine gF (Yv.gtrW (b := 1099511627776#64) rfl (Eg rfl rfl id) eV) ?_
 refine y5 (nl ?_)
 refine cq (fun h1t => ?_) fun _ => ?_
 ·exfalso; simp [hh, hh2] at h1t
 refine sp (rs (y1 ?_))
 refine kt (kept29 p hp) ?_
 rintro t35 S35 rfl
 refine y3 ?_
 refine AWL.makeMapOp rfl rfl (B rfl) rfl (fun b39 => ?_)
 refine y1 ?_
 refine bx fun b41 => ?_
 refine y1 (nl ?_)
 refine AW.rowNil 87 1 ?_
 refine AW.perm (S' := [Ent.box b41 83 (psC (psN p (.v (.slice none 0 0)) heap strict (.v (.pointer (sg wb))) (.v (.map (some b39)))) (.v (.slice none 0 0))), Ent.box b4 25 (progCells p), Ent.map b39 [], Ent.row none 0 0 87 1 (([] : List Nat).map mapT)] ++ mapsE [] (p.funs.take 0)) pmN ?_
 refine sq (rs (y4 ?_))
 refine nl (bk ?_)
 refine lp4 (fun (j : Nat) (bs : List Nat) (A : Option Addr) (c : Nat) => [(4, true, pv b4), (11, true, pv b41), (43, true, .sl 5 (p.funs.flatMap fnCells)), (44, true, .v (.int .i64 (p.funs.length : Int))), (45, true, zv j)]) (fun (j : Nat) (bs : List Nat) (A : Option Addr) (c : Nat) => ([Ent.box b41 83 (psC (psN p (.v (.slice A j c)) heap strict (.v (.pointer (sg wb))) (.v (.map (some b39)))) (.v (.slice none 0 0))), Ent.box b4 25 (progCells p), Ent.map b39 [], Ent.row A j c 87 1 (bs.map mapT)] ++ mapsE bs (p.funs.take j))) (fun (j : Nat) (bs : List Nat) (A : Option Addr) (c : Nat) => j ≤ p.funs.length ∧ bs.length = j) (fun (j : Nat) (bs : List Nat) (A : Option Addr) (c : Nat) => p.funs.length - j) 0 ([]) none 0 ?_ ?_
 ·exact ⟨Nat.zero_le _, rfl⟩
 intro j bs A c hinv
 obtain ⟨hj, hbs⟩ := hinv
 refine rs (y1 ?_)
 refine nl (sq ?_)
 refine cq (fun _ => ?_) fun _ => ?_
 ·have hjl : j < p.funs.length := by omega
  have hfc := (hp.fn _ (getD_mem hjl)).code
  refine sp (sq (bk (rs (y2 ?_))))
  refine bg fun b13 => ?_
  refine y1 ?_
  refine nl (rs ?_)
  refine AWL.makeMapOp rfl rfl (B rfl) rfl (fun b49 => ?_)
  refine AWL.perm (List.perm_append_singleton _ _).symm ?_
  refine y1 ?_
  refine nl (sq (rs (y4 ?_)))
  refine nl (bk ?_)
  refine lp1 (fun (q : Nat) => [(4, true, pv b4), (11, true, pv b41), (43, true, .sl 5 (p.funs.flatMap fnCells)), (44, true, .v (.int .i64 (p.funs.length : Int))), (45, true, zv j), (13, true, pv b13), (14, true, .v (.map (some b49))), (51, true, .sl 11 ((p.funs.getD j default).code.flatMap insCells)), (52, true, .v (.int .i64 ((p.funs.getD j default).code.length : Int))), (53, true, zv q)]) (fun (q : Nat) => (.map b49 (lmT (whT (p.funs.getD j default).code q)) :: .box b13 86 (fnCells (p.funs.getD j default)) :: ([Ent.box b41 83 (psC (psN p (.v (.slice A j c)) heap strict (.v (.pointer (sg wb))) (.v (.map (some b39)))) (.v (.slice none 0 0))), Ent.box b4 25 (progCells p), Ent.map b39 [], Ent.row A j c 87 1 (bs.map mapT)] ++ mapsE bs (p.funs.take j)))) (fun (q : Nat) => q ≤ (p.funs.getD j default).code.length) (fun (q : Nat) => (p.funs.getD j default).code.length - q) 0 ?_ ?_
  ·exact Nat.zero_le _
  intro q hq0
  refine rs (y1 ?_)
  refine nl (sq ?_)
  refine cq (fun _ => ?_) fun _ => ?_
  ·have hq : q < (p.funs.getD j default).code.length := by omega
   refine sp (sq (bk (rs (y3 ?_))))
   refine bg fun b16 => ?_
   refine y2 ?_
   refine nl (rs (y3 (nl ?_)))
   refine cq (fun h4t => ?_) fun h4f => ?_
   ·refine rg (y4 ?_)
    refine AWL.mapUpd (k := .i _ _) (i := 1) rfl rfl (.inl rfl) mp_87 rfl (E rfl rfl) (E rfl rfl) (E rfl rfl) rfl rfl (lm_good _ _ rfl) (nl ?_)
    refine AW.dropAt 0 ?_
    refine rg (y2 (nl ?_))
    refine ⟨q + 1, by omega, by omega, sbZ, ?_⟩
    rw [wh_succ hq, whStep, if_pos h4t, ← put_lm]
    rfl
   refine sp ?_
   refine AW.dropAt 0 ?_
   refine rg (y2 (nl ?_))
   refine ⟨q + 1, by omega, by omega, sbZ, ?_⟩
   rw [wh_succ hq, whStep, if_neg h4f]
   rfl
  obtain rfl : q = (p.funs.getD j default).code.length := by omega
  rw [wh_all (Nat.le_refl _)]
  refine xt (rg (y6 ?_))
  refine AWL.buildSlice1 rfl rfl (B rfl) rfl el_59 rfl (evsC (E rfl rfl) evs0) nB rfl rfl ?_
  refine AWL.appendRow (i := 5) rfl rfl (B rfl) rfl el_59 (B rfl) rfl (E rfl rfl) (SrcT.sl so_59 (B rfl) (E rfl rfl) rfl) (by unfold maxLen; omega) (by omega) (fun A73 c73 => ?_)
  refine y3 (nl ?_)
  refine AW.dropAt 1 ?_
  refine AW.perm (S' := ([Ent.box b41 83 (psC (psN p (.v (.slice A73 (j + 1) c73)) heap strict (.v (.pointer (sg wb))) (.v (.map (some b39)))) (.v (.slice none 0 0))), Ent.box b4 25 (progCells p), Ent.map b39 [], Ent.row A73 (j + 1) c73 87 1 ((bs ++ [b49]).map mapT)] ++ mapsE bs (p.funs.take j)) ++ [.map b49 (lmT (whL (p.funs.getD j default).code))]) (by rw [List.map_append]; exact List.perm_append_singleton _ _) ?_
  refine rg (y2 (nl ?_))
  refine ⟨j + 1, bs ++ [b49], A73, c73, ⟨by omega, by rw [List.length_append, hbs]; rfl⟩, by omega, sbZ, ?_⟩
  rw [mapsE_succ hjl hbs, ← List.append_assoc]
 obtain rfl : j = p.funs.length := by omega
 refine xt (sq ?_)
 rw [List.take_length]
 refine AW.perm (S' := [Ent.box b41 83 (psC (psN p (.v (.slice A p.funs.length c)) heap strict (.v (.pointer (sg wb))) (.v (.map (some b39)))) (.v (.slice none 0 0))), Ent.map b39 []] ++ (Ent.box b4 25 (progCells p) :: Ent.row A p.funs.length c 87 1 (bs.map mapT) :: mapsE bs p.funs)) pmD ?_
 refine rs (y4 ?_)
 refine nl (bk ?_)
 refine lp2 (fun (i : Nat) (l : List Pg) => [(4, true, pv b4), (11, true, pv b41), (78, true, .sl 1 (p.data.map u8)), (79, true, .v (.int .i64 (p.data.length : Int))), (80, true, zv i)]) (fun (i : Nat) (l : List Pg) => ((Ent.box b41 83 (psC (psN p (.v (.slice A p.funs.length c)) heap strict (.v (.pointer (sg wb))) (.v (.map (some b39)))) (.v (.slice none 0 0))) :: memE 129 b39 l) ++ (Ent.box b4 25 (progCells p) :: Ent.row A p.funs.length c 87 1 (bs.map mapT) :: mapsE bs p.funs))) (fun (i : Nat) (l : List Pg) => i ≤ p.data.length ∧ PgOk l ∧ getM l = putsN (fun _ => 0) 268435456#64 p.data i) (fun (i : Nat) (l : List Pg) => p.data.length - i) 0 ([]) ?_ ?_
 ·exact ⟨Nat.zero_le _, fun j hj => absurd hj (Nat.not_lt_zero j), rfl⟩
 intro i l ⟨hi0, hl, hgl⟩
 refine rs (y1 ?_)
 refine nl (sq ?_)
 refine cq (fun _ => ?_) fun _ => ?_
 ·refine sp (sq (bk (rs (y5 ?_))))
  refine nl (rg (y2 ?_))
  refine Y1 (Yv.convW rfl Tryz.underlying3 kd_29 eV) ?_
  refine Y1 (Yv.addW (a := 268435456#64) rfl eV eV) ?_
  refine y1 ?_
  refine kc (put30 b41 b39 (psN p (.v (.slice A p.funs.length c)) heap strict (.v (.pointer (sg wb))) (.v (.map (some b39)))) (.v (.slice none 0 0)) l rfl hl (268435456#64 + wI (i : Int)) (p.data.getD i 0)) ?_
  rintro t90 S90 ⟨rfl, l3, rfl, hl3, hg3⟩
  refine nl (rg (y2 (nl ?_)))
  refine ⟨i + 1, l3, ⟨by omega, hl3, by rw [hg3, hgl]; rfl⟩, by omega, sbZ, rfl⟩
 obtain rfl : i = p.data.length := by omega
 refine xt ?_
 refine AW.rowNil 104 7 ?_
 refine AW.perm (S' := [Ent.box b41 83 (psC (psN p (.v (.slice A p.funs.length c)) heap strict (.v (.pointer (sg wb))) (.v (.map (some b39)))) (.v (.slice none 0 0))), Ent.row none 0 0 104 7 []] ++ (memE 129 b39 l ++ (Ent.box b4 25 (progCells p) :: Ent.row A p.funs.length c 87 1 (bs.map mapT) :: mapsE bs p.funs))) pmE ?_
 refine rs (y1 ?_)
 refine kc ((open31 b41 (psN p (.v (.slice A p.funs.length c)) heap strict (.v (.pointer (sg wb))) (.v (.map (some b39)))) 0 [] 0 none 0 0 [] hok.some hpf hf1.1 hf1.2.1 hf1.2.2.1 hf1.2.2.2 hf1.1 (by omega)).le (Les.cons .refl (.cons .refl (.cons (nil_le 1) .refl)))) ?_
 rintro t93 S93 ⟨rfl, g, c2, a, rfl⟩
 refine nl ?_
 refine AW.perm (S' := [Ent.row A p.funs.length c 87 1 (bs.map mapT)] ++ (([Ent.box b41 83 (psC (psN p (.v (.slice A p.funs.length c)) heap strict (.v (.pointer (sg wb))) (.v (.map (some b39)))) (.v (.slice (sg g) 1 c2))), Ent.row (sg g) 1 c2 104 7 (([] : List T) ++ frC (newX p) a)] ++ frR (newX p) a) ++ (memE 129 b39 l ++ (Ent.box b4 25 (progCells p) :: mapsE bs p.funs)))) pmF ?_
 refine AW.rowSome 0 rfl (by omega) (fun gl hgl => ?_)
 subst hgl
 refine AW.perm (S' := Ent.box b4 25 (progCells p) :: SPn ⟨b41, gl, c, b39, wb, 0, bs⟩ (newC p heap strict) (newX p) g c2 a l) pmG ?_
 refine AW.dropAt 0 ?_
 refine rs (y3 (nl ?_))
 refine rt ?_
 refine ⟨b41, b39, gl, c, bs, g, c2, a, l, rfl, hbs, hl, hgl, ?_⟩
 rfl


theorem pmI {X B M R : Ent} {W : St} : (B :: ((X :: [M]) ++ (R :: W))).Perm ([X, B, M, R] ++ W) := List.Perm.swap X B _
theorem pmH {P E M : St} {R : Ent} : ([R] ++ (P ++ (E ++ M))).Perm (P ++ (E ++ (R :: M))) := by
 show (R :: (P ++ (E ++ M))).Perm (P ++ (E ++ (R :: M)))
 refine List.Perm.trans (List.perm_middle (a := R) (l₁ := P) (l₂ := E ++ M)).symm ?_
 exact (List.perm_middle (a := R) (l₁ := E) (l₂ := M)).symm.append_left P
theorem DNew35 (p : Prog) (heap : Wd64) (strict : Bool) (db : Nat) (hp : ProgIn p) (hok : ProgOk p) :
    ACalls Tryz.prog 35 [.agg (progCells p), zw heap, bv strict, pv db] [] (fun t S => ∃ b20 b18 gl c bs g c2 a l, t = .v (.pointer (sg b20)) ∧ bs.length = p.funs.length ∧ PgOk l ∧ getM l = initM p ∧ S = [Ent.row (sg gl) p.funs.length c 87 1 (bs.map mapT)] ++ (([Ent.box b20 64 (psD (psN p (.v (.slice (sg gl) p.funs.length c)) heap strict (.v (.pointer (sg db))) (.v (.map (some b18)))) false (.v (.slice (sg g) 1 c2))), Ent.row (sg g) 1 c2 108 7 (([] : List T) ++ frD (newX p) a)] ++ frE (newX p) a) ++ (memE 153 b18 l ++ mapsE bs p.funs))) := by
 have hpf := hp.funs
 have hdl := hp.data
 have hf1 := fn_regs hok hok.some
 have hf0 := hok.some
 refine ai Tryz.func35 Tryz.ntmps35 fun X w0 => ?_
 refine rs ?_
 refine bx fun b4 => ?_
 refine y1 ?_
 refine nl (rs (y4 ?_))
 refine AWL.makeMapOp rfl rfl (B rfl) rfl (fun b18 => ?_)
 refine y1 ?_
 refine bx fun b20 => ?_
 refine y1 (nl ?_)
 refine AW.rowNil 87 1 ?_
 refine AW.perm (S' := [Ent.box b20 64 (psD (psN p (.v (.slice none 0 0)) heap strict (.v (.pointer (sg db))) (.v (.map (some b18)))) false (.v (.slice none 0 0))), Ent.box b4 25 (progCells p), Ent.map b18 [], Ent.row none 0 0 87 1 (([] : List Nat).map mapT)] ++ mapsE [] (p.funs.take 0)) pmN ?_
 refine sq (rs (y1 ?_))
 refine nl (bk ?_)
 refine lp4 (fun (j : Nat) (bs : List Nat) (A : Option Addr) (c : Nat) => [(4, true, pv b4), (9, true, pv b20), (10, true, zv j)]) (fun (j : Nat) (bs : List Nat) (A : Option Addr) (c : Nat) => ([Ent.box b20 64 (psD (psN p (.v (.slice A j c)) heap strict (.v (.pointer (sg db))) (.v (.map (some b18)))) false (.v (.slice none 0 0))), Ent.box b4 25 (progCells p), Ent.map b18 [], Ent.row A j c 87 1 (bs.map mapT)] ++ mapsE bs (p.funs.take j))) (fun (j : Nat) (bs : List Nat) (A : Option Addr) (c : Nat) => j ≤ p.funs.length ∧ bs.length = j) (fun (j : Nat) (bs : List Nat) (A : Option Addr) (c : Nat) => p.funs.length - j) 0 ([]) none 0 ?_ ?_
 ·exact ⟨Nat.zero_le _, rfl⟩
 intro j bs A c hinv
 obtain ⟨hj, hbs⟩ := hinv
 refine sq (rs (y5 (nl ?_)))
 refine cq (fun _ => ?_) fun _ => ?_
 ·have hjl : j < p.funs.length := by omega
  have hfc := (hp.fn _ (getD_mem hjl)).code
  refine sp (sq (bk (rs (y5 ?_))))
  refine kc (Labels22 (p.funs.getD j default) hfc) ?_
  rintro t34 S34 ⟨m1, w1, rfl, rfl⟩
  refine y5 (nl ?_)
  refine AW.dropAt 0 ?_
  refine AW.perm (S' := ([Ent.box b20 64 (psD (psN p (.v (.slice A j c)) heap strict (.v (.pointer (sg db))) (.v (.map (some b18)))) false (.v (.slice none 0 0))), Ent.box b4 25 (progCells p), Ent.map b18 [], Ent.row A j c 87 1 (bs.map mapT)] ++ mapsE bs (p.funs.take j)) ++ [.map w1 (lmT (whL (p.funs.getD j default).code))]) List.perm_append_comm ?_
  refine rg (y6 ?_)
  refine AWL.buildSlice1 rfl rfl (B rfl) rfl el_59 rfl (evsC (E rfl rfl) evs0) nB rfl rfl ?_
  refine AWL.appendRow (i := 3) rfl rfl (B rfl) rfl el_59 (B rfl) rfl (E rfl rfl) (SrcT.sl so_59 (B rfl) (E rfl rfl) rfl) (by unfold maxLen; omega) (by omega) (fun A44 c44 => ?_)
  refine y3 (nl ?_)
  refine AW.eqS (S' := ([Ent.box b20 64 (psD (psN p (.v (.slice A44 (j + 1) c44)) heap strict (.v (.pointer (sg db))) (.v (.map (some b18)))) false (.v (.slice none 0 0))), Ent.box b4 25 (progCells p), Ent.map b18 [], Ent.row A44 (j + 1) c44 87 1 ((bs ++ [w1]).map mapT)] ++ mapsE bs (p.funs.take j)) ++ [.map w1 (lmT (whL (p.funs.getD j default).code))]) (by rw [List.map_append]; rfl) ?_
  refine rg (y3 (nl ?_))
  refine ⟨j + 1, bs ++ [w1], A44, c44, ⟨by omega, by rw [List.length_append, hbs]; rfl⟩, by omega, sbZ, ?_⟩
  rw [mapsE_succ hjl hbs, ← List.append_assoc]
 obtain rfl : j = p.funs.length := by omega
 refine xt (sq ?_)
 rw [List.take_length]
 refine AW.perm (S' := Ent.box b4 25 (progCells p) :: ((Ent.box b20 64 (psD (psN p (.v (.slice A p.funs.length c)) heap strict (.v (.pointer (sg db))) (.v (.map (some b18)))) false (.v (.slice none 0 0))) :: memE 153 b18 []) ++ (Ent.row A p.funs.length c 87 1 (bs.map mapT) :: mapsE bs p.funs))) pmI ?_
 refine rs (y1 ?_)
 refine nl (bk ?_)
 refine lp2 (fun (i : Nat) (l : List Pg) => [(4, true, pv b4), (9, true, pv b20), (13, true, zv i)]) (fun (i : Nat) (l : List Pg) => (Ent.box b4 25 (progCells p) :: ((Ent.box b20 64 (psD (psN p (.v (.slice A p.funs.length c)) heap strict (.v (.pointer (sg db))) (.v (.map (some b18)))) false (.v (.slice none 0 0))) :: memE 153 b18 l) ++ (Ent.row A p.funs.length c 87 1 (bs.map mapT) :: mapsE bs p.funs)))) (fun (i : Nat) (l : List Pg) => i ≤ p.data.length ∧ PgOk l ∧ getM l = putsN (fun _ => 0) 268435456#64 p.data i) (fun (i : Nat) (l : List Pg) => p.data.length - i) 0 ([]) ?_ ?_
 ·exact ⟨Nat.zero_le _, fun j hj => absurd hj (Nat.not_lt_zero j), rfl⟩
 intro i l ⟨hi0, hl, hgl⟩
 refine sq (rs (y5 (nl ?_)))
 refine cq (fun _ => ?_) fun _ => ?_
 ·refine sp (sq (bk (rg (y2 ?_))))
  refine Y1 (Yv.convW rfl Tryz.underlying3 kd_29 eV) ?_
  refine Y1 (Yv.addW (a := 268435456#64) rfl eV eV) ?_
  refine y5 ?_
  refine AWL.callF rfl rfl (B rfl) rfl ce_46 (E rfl rfl) (evsC (E rfl rfl) (evsC (E rfl rfl) (evsC (E rfl rfl) evs0))) (F1 := [Ent.box b4 25 (progCells p)]) (S1 := (Ent.box b20 64 (psD (psN p (.v (.slice A p.funs.length c)) heap strict (.v (.pointer (sg db))) (.v (.map (some b18)))) false (.v (.slice none 0 0))) :: memE 153 b18 l)) (F2 := (Ent.row A p.funs.length c 87 1 (bs.map mapT) :: mapsE bs p.funs)) rfl (Dput46 b20 b18 (psN p (.v (.slice A p.funs.length c)) heap strict (.v (.pointer (sg db))) (.v (.map (some b18)))) false (.v (.slice none 0 0)) l rfl hl (268435456#64 + wI (i : Int)) (p.data.getD i 0)) ?_
  rintro t63 S63 ⟨rfl, l3, rfl, hl3, hg3⟩
  refine nl (rg (y3 (nl ?_)))
  refine ⟨i + 1, l3, ⟨by omega, hl3, by rw [hg3, hgl]; rfl⟩, by omega, sbZ, rfl⟩
 obtain rfl : i = p.data.length := by omega
 refine xt ?_
 refine AW.dropAt 0 ?_
 refine AW.rowNil 108 7 ?_
 refine AW.perm (S' := [Ent.box b20 64 (psD (psN p (.v (.slice A p.funs.length c)) heap strict (.v (.pointer (sg db))) (.v (.map (some b18)))) false (.v (.slice none 0 0))), Ent.row none 0 0 108 7 []] ++ (memE 153 b18 l ++ (Ent.row A p.funs.length c 87 1 (bs.map mapT) :: mapsE bs p.funs))) pmE ?_
 refine rs (y1 ?_)
 refine kc ((Dopen43 b20 (psN p (.v (.slice A p.funs.length c)) heap strict (.v (.pointer (sg db))) (.v (.map (some b18)))) false 0 [] 0 none 0 0 [] hok.some hpf hf1.1 hf1.2.1 hf1.2.2.1 hf1.2.2.2 hf1.1 (by omega)).le (Les.cons .refl (.cons .refl (.cons (nil_le 1) .refl)))) ?_
 rintro t65 S65 ⟨rfl, g, c2, a, rfl⟩
 refine nl ?_
 refine AW.perm (S' := [Ent.row A p.funs.length c 87 1 (bs.map mapT)] ++ (([Ent.box b20 64 (psD (psN p (.v (.slice A p.funs.length c)) heap strict (.v (.pointer (sg db))) (.v (.map (some b18)))) false (.v (.slice (sg g) 1 c2))), Ent.row (sg g) 1 c2 108 7 (([] : List T) ++ frD (newX p) a)] ++ frE (newX p) a) ++ (memE 153 b18 l ++ mapsE bs p.funs))) pmH ?_
 refine AW.rowSome 0 rfl (by omega) (fun gl hgl => ?_)
 subst hgl
 refine rs (y2 (nl ?_))
 refine rt ?_
 refine ⟨b20, b18, gl, c, bs, g, c2, a, l, rfl, hbs, hl, hgl, ?_⟩
 rfl

end Go.Proofs.YtlfklgganokgdaaGreat
