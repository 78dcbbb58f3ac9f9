/-
  TEXTS JOINED: Zk21, Ow, Oq, Zo.
-/
import Derived.Test.YtlfklgganokgdaaGreatQl
set_option linter.unusedSimpArgs false
set_option linter.unusedVariables false
set_option linter.unusedSectionVars false
set_option linter.unnecessarySimpa false
set_option maxHeartbeats 64000000
namespace Go.Proofs.YtlfklgganokgdaaGreat
open Go Go.RowKit

theorem newE_t {p : Prog} {heap : Wd64} (h : (decide (checkW p = 0) && (decide (heap < 65536#64) || decide (1099511627776#64 < heap))) = true) : newE p heap = 1 := by
 simp only [Bool.and_eq_true, Bool.or_eq_true, decide_eq_true_eq] at h
 exact if_pos h
theorem newE_f {p : Prog} {heap : Wd64} (h : (decide (checkW p = 0) && (decide (heap < 65536#64) || decide (1099511627776#64 < heap))) = false) : newE p heap = checkW p := by
 refine if_neg fun q => ?_
 have : (decide (checkW p = 0) && (decide (heap < 65536#64) || decide (1099511627776#64 < heap))) = true := by
  simp only [Bool.and_eq_true, Bool.or_eq_true, decide_eq_true_eq]
  exact q
 rw [this] at h
 cases h
theorem newE0_a (p : Prog) : (decide (checkW p = 0) && !decide (newE0 p = 1)) = false := by
 unfold newE0
 by_cases h : checkW p = 0 <;> simp [h]
theorem newE0_b (p : Prog) : (!decide (checkW p = 0) && !decide (newE0 p = checkW p)) = false := by
 unfold newE0
 by_cases h : checkW p = 0 <;> simp [h]
theorem n_known {x : Int} {b c : Bool} (h1 : b = false) (h2 : c = false) : ((!decide (x = x) || b) || c) = false := by simp [h1, h2]
theorem new_heap (p : Prog) (st : Bool) (w : V.PW) : (newM p 65536#64 st w).c.heap.toNat ≤ 268435456 := by
 show (65536#64 : Wd64).toNat ≤ 268435456
 decide
theorem pR21 {b : Nat} {L : Lay} {m : Mc} {q : Qp} {D : DLay} {m' : Mc} {q' : DQ} {B3 B4 B5 : Ent} : (([pairB b L D, B5] ++ (SP L m q ++ DP D m' q')) ++ [B3, B4]).Perm (AS b L m q D m' q' ++ [B3, B4, B5]) := by
 refine List.Perm.trans ?_ (as_perm.symm.append_right _)
 exact pk fun e => by simp only [cn_app, cn_cons, cn_nil]; omega
theorem pA21 {b : Nat} {L : Lay} {m : Mc} {q : Qp} {D : DLay} {m' : Mc} {q' : DQ} {B5 : Ent} : (AS b L m q D m' q' ++ [B5]).Perm ([pairB b L D, B5] ++ (SP L m q ++ DP D m' q')) := by
 refine (as_perm.append_right _).trans ?_
 exact pk fun e => by simp only [cn_app, cn_cons, cn_nil]; omega
theorem pA21' {b : Nat} {L : Lay} {m : Mc} {q : Qp} {D : DLay} {m' : Mc} {q' : DQ} {B5 : Ent} : ([pairB b L D, B5] ++ (SP L m q ++ DP D m' q')).Perm (AS b L m q D m' q' ++ [B5]) := pA21.symm
theorem runM_st {RF : Int → Wd64 → Wd64 → Wd64} {m : Mc} (h : m.c.st ≠ 0) : ∀ n, runM RF n m = m
 | 0 => rfl
 | n + 1 => by rw [runM, if_pos h]
theorem Run13D (D : DLay) (p : Prog) (hok : ProgOk p) (hp : ProgIn p) (hbd : D.bs.length = p.funs.length) (m m2 : Mc) (q2 : DQ) (f : Int) (hm : MOk p m) (he : DEnd m2 m) (hq2 : DRel m2 q2) (hW : ∀ j : Nat, j ≤ f.toNat → V.RP 549755813888 (runM realF j m).w) (hs : 0 ≤ m.c.steps ∧ m.c.steps ≤ 4611686018427387904) (hf : f ≤ 4611686018427387903) :
    ACalls Tryz.prog 13 [pv D.s, zi f] (DP D m2 q2) (fun t S => ∃ m' q', t = zi m'.c.st ∧ DEnd m' (runM realF f.toNat m) ∧ DRel m' q' ∧ S = DP D m' q') := by
 have hc := dend_c he
 rcases he with rfl | ⟨h0, at_, rfl⟩
 ·exact Run13 D p hok hp hbd _ q2 f hm hq2 hW hs hf
 refine (Run13e D _ q2 f (by rw [hc]; exact h0)).mono fun t S ⟨h1, h2⟩ => ⟨_, q2, h1, ?_, hq2, h2⟩
 rw [runM_st h0]
 exact .inr ⟨h0, at_, rfl⟩
theorem WordRuns3 (p : Prog) (hp : ProgIn p) (xs : List UInt8) (xf : V.Fl) (hxs : xs.length ≤ 1048576) (hxl : xf.length ≤ 1048576) (hxn : ∀ x ∈ xf, x.1.length ≤ 1048576) (hxd : ∀ x ∈ xf, x.2.length ≤ 1048576) (heap : Wd64) (st : Bool) (fu : Int) (hfu0 : -9223372036854775808 ≤ fu) (hfu1 : fu ≤ 9223372036854775807) (l : List Wd64) (hl : l.length ≤ 1048576) :
    ACalls Tryz.prog 3 [.agg (progCells p), V.worldT xs xf, .agg [zw heap, bv st, zi fu, .sl 1 (l.map zw)]] [] (fun t S => t = bv true) := by
 have hn1 : (!decide (newE p heap = newE p heap)) = false := by simp
 have hz1 := newE0_a p
 have hz2 := newE0_b p
 refine ai Tryz.func3 Tryz.ntmps3 fun X w0 => ?_
 refine rs ?_
 refine bx fun b3 => ?_
 refine bx fun b4 => ?_
 refine bx fun b5 => ?_
 refine y1 ?_
 refine nl (rs (y1 ?_))
 refine kc (V.New9 xs xf (by omega) (by omega) (fun x hx => by have := hxd x hx; omega)) ?_
 rintro t17 S17 ⟨b1, m1, fl1, rfl, rfl, hf1⟩
 refine y1 (nl ?_)
 refine AW.drop (S' := [Ent.box b3 25 (progCells p), Ent.box b4 28 [sv xs, .sl 2 (xf.flatMap V.fCells)], Ent.box b5 32 [zw heap, bv st, zi fu, .sl 1 (l.map zw)]]) (List.sublist_append_right _ _) ?_
 refine rs (y6 ?_)
 refine kt (New6E p heap st b1 hp) ?_
 rintro t25 S25 ⟨a1, rfl⟩
 refine y5 ?_
 refine nl (rs (y5 ?_))
 refine kt (New6N p heap st hp) ?_
 rintro t34 S34 rfl
 refine y5 ?_
 refine nl (rs (y1 ?_))
 refine kp (Check7W p hp) ?_
 refine y1 ?_
 refine nl (rs (y2 (nl ?_)))
 refine AW.mid (α := Unit) (fun _ => [(3, true, pv b3), (4, true, pv b4), (5, true, pv b5), (9, true, zi (newE p heap)), (11, true, zi (newE0 p)), (12, true, zi (checkW p)), (13, true, zi (newE p heap))]) (fun _ => [Ent.box b3 25 (progCells p), Ent.box b4 28 [sv xs, .sl 2 (xf.flatMap V.fCells)], Ent.box b5 32 [zw heap, bv st, zi fu, .sl 1 (l.map zw)]]) (fun _ => True) ?_ ?_
 ·refine rs (y5 ?_)
  refine gT (Yv.lssW (b := 65536#64) rfl (Eg rfl rfl id) eV) ?_
  refine y3 ?_
  refine gF (Yv.gtrW (b := 1099511627776#64) rfl (Eg rfl rfl id) eV) ?_
  refine y2 (nl ?_)
  refine cq (fun h0t => ?_) fun h0f => ?_
  ·refine rg (y1 (nl ?_))
   exact ⟨(), trivial, (su (su (su (su (su (su (Sub.cons rfl (congrArg zi (newE_t h0t)) Sub.nil))))))), rfl⟩
  refine sp ?_
  exact ⟨(), trivial, (su (su (su (su (su (su (Sub.cons rfl (congrArg zi (newE_f h0f)) Sub.nil))))))), rfl⟩
 rintro _ hmid
 refine sq (rs (y21 ?_))
 refine AWL.unguard rfl rfl rfl (n_known hz1 hz2) ?_
 refine kp (known8) ?_
 refine AWL.unguard rfl rfl rfl (n_known hz1 hz2) ?_
 refine y2 (nl ?_)
 refine cq (fun h1t => ?_) fun _ => ?_
 ·exfalso; rw [n_known hz1 hz2] at h1t; simp at h1t
 refine sp (sq (rs (y4 ?_)))
 refine AWL.callPgF rfl rfl rfl rfl (B rfl) rfl ce_9 (E rfl rfl) (evsC (Eg rfl rfl id) evs0) (fun hg => size8 p hp) (fun t S h => h) ?_
 refine y2 (nl ?_)
 refine cq (fun _ => ?_) fun h2f => ?_
 ·refine rs (y1 (nl ?_))
  refine rt ?_
  rfl
 have hck : checkW p = 0 := by
  have h := h2f
  rw [Bool.or_eq_false_iff] at h
  simpa using h.1
 have hok := check_good ((check_eq p).symm.trans hck)
 refine sp (rs (y4 ?_))
 refine kc (begun10 p hp hok hck st xs xf hxs hxl hxn hxd) ?_
 rintro t87 S87 ⟨b, L, q, D, q2, rfl, hq, hq2, hbs, hbd, rfl⟩
 refine y1 (nl ?_)
 refine AW.perm (S' := ([pairB b L D, Ent.box b5 32 [zw heap, bv st, zi fu, .sl 1 (l.map zw)]] ++ (SP L (newM p 65536#64 st (V.newW xs xf)) q ++ DP D (newM p 65536#64 st (V.newW xs xf)) q2)) ++ [Ent.box b3 25 (progCells p), Ent.box b4 28 [sv xs, .sl 2 (xf.flatMap V.fCells)]]) pR21 ?_
 refine AW.drop (List.sublist_append_left _ _) ?_
 have hm0 := newM_ok hok 65536#64 st (V.newW xs xf)
 have hhe0 := new_heap p st (V.newW xs xf)
 have hw0 : V.RP 1048576 (newM p 65536#64 st (V.newW xs xf)).w := V.rp_new hxs hxl hxd
 have hpk := pick_in fu (n := 300) (by decide)
 have hr7 := rem7_in fu
 have hro := run_ok (RF := realF) hok hp.funs (pickF fu 300).toNat hm0
 have hwr := run_w (RF := realF) hok hp.data hp.funs (pickF fu 300).toNat hm0 hhe0 hw0
 have hhe1 : (runM realF (pickF fu 300).toNat (newM p 65536#64 st (V.newW xs xf))).c.heap.toNat ≤ 268435456 := by rw [hro.2.2.2.1]; exact hhe0
 have hs00 : (newM p 65536#64 st (V.newW xs xf)).c.steps = 0 := rfl
 have hs1 : 0 ≤ (runM realF (pickF fu 300).toNat (newM p 65536#64 st (V.newW xs xf))).c.steps ∧ (runM realF (pickF fu 300).toNat (newM p 65536#64 st (V.newW xs xf))).c.steps ≤ 4611686018427387904 := by have h1 := hro.2.1; have h2 := hro.2.2.1; rw [hs00] at h1 h2; omega
 have hro2 := run_ok (RF := realF) hok hp.funs (rem7 fu).toNat hro.1
 have hwr2 := run_w (RF := realF) hok hp.data hp.funs (rem7 fu).toNat hro.1 hhe1 hwr
 refine sq (rs (y2 (nl ?_)))
 refine cq (fun h3t => ?_) fun _ => ?_
 ·cases h3t
 refine sp (rs (y2 ?_))
 refine kp (pick11 fu 300 hfu0 hfu1 (by decide)) ?_
 refine y1 ?_
 refine nl (sq ?_)
 refine AW.rseqH (HeldCs [(b, 0, Value.pointer (sg L.s)), (b, 2, Value.pointer (sg D.s))]) rfl (tells_cs tcA) ?_
 refine tq 0 ?_
 refine tq 1 ?_
 refine tq 2 ?_
 refine tq 3 ?_
 refine tq 4 ?_
 refine tq 6 ?_
 refine tq 7 ?_
 refine tq 8 ?_
 refine tq 9 ?_
 refine tq 10 ?_
 refine oh 5 ?_
 refine AWL.callF rfl rfl (B rfl) rfl ce_12 (E rfl rfl) (evsC (E rfl rfl) (evsC (E rfl rfl) evs0)) (F1 := [pairB b L D, Ent.box b5 32 [zw heap, bv st, zi fu, .sl 1 (l.map zw)]]) (S1 := (SP L (newM p 65536#64 st (V.newW xs xf)) q)) (F2 := (DP D (newM p 65536#64 st (V.newW xs xf)) q2)) rfl (Run15 realF (fun k a b h0 h1 => real72 k a b h0 h1) L p hok hp hbs (newM p 65536#64 st (V.newW xs xf)) q (pickF fu 300) (1048576) hm0 hq hhe0 hw0 (by omega) ⟨Int.le_refl _, (by show (0 : Int) ≤ 4611686018427387904; decide)⟩ (by omega)) ?_
 rintro t98 S98 ⟨q3, rfl, hq3, rfl⟩
 refine kh ?_
 refine oh 11 ?_
 refine cE ce_13 ([pairB b L D, Ent.box b5 32 [zw heap, bv st, zi fu, .sl 1 (l.map zw)]] ++ SP L (runM realF (pickF fu 300).toNat (newM p 65536#64 st (V.newW xs xf))) q3) _ rfl rfl rfl (Run13D D p hok hp hbd (newM p 65536#64 st (V.newW xs xf)) (newM p 65536#64 st (V.newW xs xf)) q2 (pickF fu 300) hm0 (.inl rfl) hq2 (fun j hj => (run_w (RF := realF) hok hp.data hp.funs j hm0 hhe0 hw0).mono (by omega)) ⟨Int.le_refl _, (by show (0 : Int) ≤ 4611686018427387904; decide)⟩ (by omega)) ?_
 rintro t104 S104 ⟨m2, q4, rfl, hde, hq4, rfl⟩
 have hst1 : m2.c.st = (runM realF (pickF fu 300).toNat (newM p 65536#64 st (V.newW xs xf))).c.st := by rw [dend_c hde]
 refine kh ?_
 refine oh 12 ?_
 refine y1 ?_
 refine kh ?_
 refine oh 13 ?_
 refine y1 ?_
 refine kh ?_
 refine tg 14 ?_ (hb := by simp [hst1])
 refine oh 15 ?_
 refine AWL.unguard rfl rfl rfl (by simp [hst1]) ?_
 refine y1 ?_
 refine kh ?_
 refine oh 16 ?_
 refine AWL.unguard rfl rfl rfl (by simp [hst1]) ?_
 refine y1 ?_
 refine kh ?_
 refine oh 17 ?_
 refine AWL.perm (S' := AS b L (runM realF (pickF fu 300).toNat (newM p 65536#64 st (V.newW xs xf))) q3 D m2 q4 ++ [Ent.box b5 32 [zw heap, bv st, zi fu, .sl 1 (l.map zw)]]) pA21 ?_
 refine AWL.unguard rfl rfl rfl (by simp [hst1]) ?_
 refine kc (alike14 b L p hok hp (runM realF (pickF fu 300).toNat (newM p 65536#64 st (V.newW xs xf))) q3 D m2 q4 hro.1.prog hq3 hde hq4 (1048576 + 268435458 * (pickF fu 300).toNat) hwr (by omega) l hl) ?_
 rintro t110 S110 ⟨rfl, rfl⟩
 refine kh ?_
 refine oh 18 ?_
 refine AWL.unguard rfl rfl rfl (by simp [hst1]) ?_
 refine y1 ?_
 refine kh ?_
 refine oh 19 ?_
 refine y1 ?_
 refine kh ?_
 refine dn ?_
 refine cq (fun h4t => ?_) fun _ => ?_
 ·exfalso; simp [hst1] at h4t
 refine sp ?_
 refine AW.perm (S' := ([pairB b L D, Ent.box b5 32 [zw heap, bv st, zi fu, .sl 1 (l.map zw)]] ++ (SP L (runM realF (pickF fu 300).toNat (newM p 65536#64 st (V.newW xs xf))) q3 ++ DP D m2 q4))) pA21' ?_
 refine AW.rseqH (HeldCs [(b, 0, Value.pointer (sg L.s)), (b, 2, Value.pointer (sg D.s)), (b5, 2, Value.int .i64 fu)]) rfl (tells_cs tcA) ?_
 refine tq 0 ?_
 refine tq 1 ?_
 refine tq 2 ?_
 refine tq 3 ?_
 refine tq 4 ?_
 refine tq 5 ?_
 refine T2 (i := 6) rfl (heldAll (freeRem rfl (E rfl rfl) (E rfl rfl) (by decide))) ?_
 refine tq 8 ?_
 refine tq 9 ?_
 refine tq 10 ?_
 refine tq 11 ?_
 refine tq 12 ?_
 refine tq 13 ?_
 refine T2 (i := 14) rfl (heldAll (freeRem rfl (E rfl rfl) (E rfl rfl) (by decide))) ?_
 refine oh 7 ?_
 refine AWL.callF rfl rfl (B rfl) rfl ce_12 (E rfl rfl) (evsC (E rfl rfl) (evsC (E rfl rfl) evs0)) (F1 := [pairB b L D, Ent.box b5 32 [zw heap, bv st, zi fu, .sl 1 (l.map zw)]]) (S1 := (SP L (runM realF (pickF fu 300).toNat (newM p 65536#64 st (V.newW xs xf))) q3)) (F2 := (DP D m2 q4)) rfl (Run15 realF (fun k a b h0 h1 => real72 k a b h0 h1) L p hok hp hbs (runM realF (pickF fu 300).toNat (newM p 65536#64 st (V.newW xs xf))) q3 (rem7 fu) (1048576 + 268435458 * (pickF fu 300).toNat) hro.1 hq3 hhe1 hwr (by omega) hs1 (by omega)) ?_
 rintro t120 S120 ⟨q5, rfl, hq5, rfl⟩
 refine kh ?_
 refine oh 15 ?_
 refine cE ce_13 ([pairB b L D, Ent.box b5 32 [zw heap, bv st, zi fu, .sl 1 (l.map zw)]] ++ SP L (runM realF (rem7 fu).toNat (runM realF (pickF fu 300).toNat (newM p 65536#64 st (V.newW xs xf)))) q5) _ rfl rfl rfl (Run13D D p hok hp hbd (runM realF (pickF fu 300).toNat (newM p 65536#64 st (V.newW xs xf))) m2 q4 (rem7 fu) hro.1 hde hq4 (fun j hj => (run_w (RF := realF) hok hp.data hp.funs j hro.1 hhe1 hwr).mono (by omega)) hs1 (by omega)) ?_
 rintro t128 S128 ⟨m3, q6, rfl, hde2, hq6, rfl⟩
 have hst2 : m3.c.st = (runM realF (rem7 fu).toNat (runM realF (pickF fu 300).toNat (newM p 65536#64 st (V.newW xs xf)))).c.st := by rw [dend_c hde2]
 refine kh ?_
 refine oh 16 ?_
 refine y1 ?_
 refine kh ?_
 refine oh 17 ?_
 refine y1 ?_
 refine kh ?_
 refine tg 18 ?_ (hb := by simp [hst2])
 refine oh 19 ?_
 refine AWL.unguard rfl rfl rfl (by simp [hst2]) ?_
 refine y1 ?_
 refine kh ?_
 refine oh 20 ?_
 refine AWL.unguard rfl rfl rfl (by simp [hst2]) ?_
 refine y1 ?_
 refine kh ?_
 refine oh 21 ?_
 refine AWL.perm (S' := AS b L (runM realF (rem7 fu).toNat (runM realF (pickF fu 300).toNat (newM p 65536#64 st (V.newW xs xf)))) q5 D m3 q6 ++ [Ent.box b5 32 [zw heap, bv st, zi fu, .sl 1 (l.map zw)]]) pA21 ?_
 refine AWL.unguard rfl rfl rfl (by simp [hst2]) ?_
 refine kc (alike14 b L p hok hp (runM realF (rem7 fu).toNat (runM realF (pickF fu 300).toNat (newM p 65536#64 st (V.newW xs xf)))) q5 D m3 q6 hro2.1.prog hq5 hde2 hq6 ((1048576 + 268435458 * (pickF fu 300).toNat) + 268435458 * (rem7 fu).toNat) hwr2 (by omega) l hl) ?_
 rintro t134 S134 ⟨rfl, rfl⟩
 refine AWL.perm (S' := ([pairB b L D, Ent.box b5 32 [zw heap, bv st, zi fu, .sl 1 (l.map zw)]] ++ (SP L (runM realF (rem7 fu).toNat (runM realF (pickF fu 300).toNat (newM p 65536#64 st (V.newW xs xf)))) q5 ++ DP D m3 q6))) pA21' ?_
 refine kh ?_
 refine oh 22 ?_
 refine y1 ?_
 refine kh ?_
 refine oh 23 ?_
 refine y1 ?_
 refine kh ?_
 refine dn ?_
 refine rt ?_
 show T.v (.bool _) = T.v (.bool true)
 simp [hst2]

end Go.Proofs.YtlfklgganokgdaaGreat

namespace Go.Proofs.YtlfklgganokgdaaGreat
open Go.ChangeShapes Go.WideShapes Go.ChangeAt Go Go.RowKit
theorem laidOut : laidOutB Tryz.prog = true := by kernel_rfl
theorem opens9 : Opens Tryz.prog 9 1 (fun l : List UInt8 => [sv l]) (fun l => l.length + 1) (fun l => l.length ≤ maxLen) := opens_string Tryz.underlying9 (by kernel_rfl)
theorem opens3 : Opens Tryz.prog 3 1 (fun z : Int => [zi z]) (fun _ => 1) (fun z => (Lit.int .i64 z).wf = true) := opens_int Tryz.underlying3 (by kernel_rfl)
theorem opens2 : Opens Tryz.prog 2 1 (fun z : Int => [zi z]) (fun _ => 1) (fun z => (Lit.int .i64 z).wf = true) := opens_int Tryz.underlying2 (by kernel_rfl)
theorem int_i64 {z : Int} (h : (Lit.int .i64 z).wf = true) : -9223372036854775808 ≤ z ∧ z ≤ 9223372036854775807 := by simpa [Lit.wf, IntKind.min, IntKind.max, IntKind.signed, IntKind.bits] using h
theorem sum_mem {X : Type} {f : X → Nat} {l : List X} {s : X} (h : s ∈ l) : f s ≤ sumBulk f l := by
 induction l with
 | nil => cases h
 | cons x r ih =>
  simp only [sumBulk, List.map_cons, List.sum_cons] at ih ⊢
  rcases List.mem_cons.1 h with rfl | h
  ·omega
  ·have := ih h; omega
theorem sum_le {X : Type} {f g : X → Nat} (h : ∀ x, f x ≤ g x) (l : List X) : sumBulk f l ≤ sumBulk g l := by
 induction l with
 | nil => exact Nat.le_refl _
 | cons x r ih =>
  simp only [sumBulk, List.map_cons, List.sum_cons] at ih ⊢
  have := h x; omega
theorem sum_len {X : Type} {f : X → Nat} (h : ∀ x, 1 ≤ f x) (l : List X) : l.length ≤ sumBulk f l := by
 have := sum_le (f := fun _ : X => 1) h l
 rwa [sumBulk_one] at this
theorem opens47 : Opens Tryz.prog 88 1 (fun l : List Int => [.sl 1 (l.map zi)]) (fun l => l.length + 1) (fun l => ∀ z ∈ l, (Lit.int .i64 z).wf = true) :=
 (opens_slice Tryz.underlying88 (by kernel_rfl) (by decide) opens3).turn (fun l => l) (fun l h => ⟨by rw [flat_one], by rw [sumBulk_one]; omega, h.1⟩)
def insBulk (i : Ins) : Nat := i.args.length + 12
def InsWf (i : Ins) : Prop := -9223372036854775808 ≤ i.imm ∧ i.imm ≤ 9223372036854775807
theorem opens58 : Opens Tryz.prog 90 11 insCells insBulk InsWf :=
 (opens_struct Tryz.underlying90 (by kernel_rfl) (opensF_cons opens3 rfl (opensF_cons opens3 rfl (opensF_cons opens3 rfl (opensF_cons opens3 rfl (opensF_cons opens3 rfl (opensF_cons opens3 rfl (opensF_cons opens3 rfl (opensF_cons opens3 rfl (opensF_cons opens3 rfl (opensF_cons opens2 rfl (opensF_cons opens47 rfl opensF_nil)))))))))))).turn
  (fun a => (⟨a.1, a.2.1, a.2.2.1, a.2.2.2.1, a.2.2.2.2.1, a.2.2.2.2.2.1, a.2.2.2.2.2.2.1, a.2.2.2.2.2.2.2.1, a.2.2.2.2.2.2.2.2.1, a.2.2.2.2.2.2.2.2.2.1, a.2.2.2.2.2.2.2.2.2.2.1⟩ : Ins))
  (fun a h => by
   obtain ⟨_, _, _, _, _, _, _, _, _, h10, _⟩ := h
   exact ⟨rfl, by simp only [insBulk]; omega, int_i64 h10⟩)
theorem opens49 : Opens Tryz.prog 84 1 (fun l : List Ins => [.sl 11 (l.flatMap insCells)]) (fun l => sumBulk insBulk l + 1) (fun l => (∀ i ∈ l, InsWf i) ∧ l.length ≤ maxLen) := opens_slice Tryz.underlying84 (by kernel_rfl) (by decide) opens58
def fnBulk (f : Fn) : Nat := f.name.length + sumBulk insBulk f.code + 6
def FnWf (f : Fn) : Prop := (-9223372036854775808 ≤ f.regs ∧ f.regs ≤ 9223372036854775807) ∧ ∀ i ∈ f.code, InsWf i
theorem opens51 : Opens Tryz.prog 86 5 fnCells fnBulk FnWf :=
 (opens_struct Tryz.underlying86 (by kernel_rfl) (opensF_cons opens9 rfl (opensF_cons opens3 rfl (opensF_cons opens3 rfl (opensF_cons opens3 rfl (opensF_cons opens49 rfl opensF_nil)))))).turn
  (fun a => (⟨a.1, a.2.1, a.2.2.1, a.2.2.2.1, a.2.2.2.2.1⟩ : Fn))
  (fun a h => by
   obtain ⟨_, _, h3, _, h5, _⟩ := h
   exact ⟨rfl, by simp only [fnBulk]; omega, int_i64 h3, h5.1⟩)
theorem opens22 : Opens Tryz.prog 22 1 (fun l : List Fn => [.sl 5 (l.flatMap fnCells)]) (fun l => sumBulk fnBulk l + 1) (fun l => (∀ f ∈ l, FnWf f) ∧ l.length ≤ maxLen) := opens_slice Tryz.underlying22 (by kernel_rfl) (by decide) opens51
theorem opens23 : Opens Tryz.prog 23 1 (fun l : List UInt8 => [.sl 1 (l.map u8)]) (fun l => l.length + 1) (fun l => l.length ≤ maxLen) := opens_bytes Tryz.underlying23 (by kernel_rfl) Tryz.underlying5 (by kernel_rfl)
def progBulk (p : Prog) : Nat := sumBulk fnBulk p.funs + p.data.length
def ProgWf (p : Prog) : Prop := (∀ f ∈ p.funs, FnWf f) ∧ -9223372036854775808 ≤ p.zero ∧ p.zero ≤ 9223372036854775807
theorem opens25 : Opens Tryz.prog 25 3 progCells progBulk ProgWf :=
 (opens_struct Tryz.underlying25 (by kernel_rfl) (opensF_cons opens22 rfl (opensF_cons opens23 rfl (opensF_cons opens3 rfl opensF_nil)))).turn
  (fun a => (⟨a.1, a.2.1, a.2.2.1⟩ : Prog))
  (fun a h => by
   obtain ⟨h1, _, h3, _⟩ := h
   exact ⟨rfl, by simp only [progBulk]; omega, h1.1, int_i64 h3⟩)
theorem sum_code (l : List Fn) : (l.map fun f => f.code.length).sum ≤ sumBulk fnBulk l :=
 sum_le (f := fun f : Fn => f.code.length) (fun f => by
  have := sum_len (f := insBulk) (fun i => by simp only [insBulk]; omega) f.code
  simp only [fnBulk]; omega) l
theorem progIn_of {p : Prog} (h : ProgWf p) (hb : progBulk p ≤ 1048576) : ProgIn p := by
 have h1 := sum_code p.funs
 have h2 := sum_len (f := fnBulk) (fun f => by simp only [fnBulk]; omega) p.funs
 simp only [progBulk] at hb
 refine ⟨by omega, by omega, fun f hf => ?_, by omega, h.2.1, h.2.2⟩
 have h3 := sum_mem (f := fnBulk) hf
 have h4 := sum_len (f := insBulk) (fun i => by simp only [insBulk]; omega) f.code
 have h5 := h.1 f hf
 simp only [fnBulk] at h3
 refine ⟨h5.1.1, h5.1.2, by omega, fun i hi => ?_⟩
 have h6 := sum_mem (f := insBulk) hi
 simp only [insBulk] at h6
 exact ⟨(h5.2 i hi).1, (h5.2 i hi).2, by omega⟩
section
variable {H : Type} {enc : TypeId × Value → H} {w : World} {base b0 : Nat} {spare : Nat → Bool} {held : Bool} {v : Value} {d : DataW H} {p : List MemPlace}
set_option maxRecDepth 100000 in
theorem open_prog (hv : Value.okWide Tryz.prog w .any b0 25 v) (e : DataW.Trod enc Tryz.prog w base spare held 25 v d p) : ∃ x : Prog, ProgWf x ∧ VRep w [] (.agg (progCells x)) v ∧ progBulk x ≤ Rows.uptoBulk d := opens25.agg Tryz.underlying25 hv e
end
end Go.Proofs.YtlfklgganokgdaaGreat

namespace Go.Proofs.YtlfklgganokgdaaGreat
open Go.ChangeShapes Go.WideShapes Go.ChangeAt Go Go.RowKit
def fileBulk (f : List UInt8 × List UInt8) : Nat := f.1.length + f.2.length + 3
theorem opens72 : Opens Tryz.prog 76 2 V.fCells fileBulk (fun f => f.1.length ≤ maxLen ∧ f.2.length ≤ maxLen) :=
 (opens_struct Tryz.underlying76 (by kernel_rfl) (opensF_cons opens9 rfl (opensF_cons opens9 rfl opensF_nil))).turn (fun a => (a.1, a.2.1)) (fun a h => ⟨rfl, by simp only [fileBulk]; omega, ⟨h.1, h.2.1⟩⟩)
theorem opens31 : Opens Tryz.prog 26 1 (fun l : List (List UInt8 × List UInt8) => [.sl 2 (l.flatMap V.fCells)]) (fun l => sumBulk fileBulk l + 1) (fun l => (∀ f ∈ l, f.1.length ≤ maxLen ∧ f.2.length ≤ maxLen) ∧ l.length ≤ maxLen) := opens_slice Tryz.underlying26 (by kernel_rfl) (by decide) opens72
def worldBulk (w : List UInt8 × List (List UInt8 × List UInt8)) : Nat := w.1.length + sumBulk fileBulk w.2
def WorldWf (w : List UInt8 × List (List UInt8 × List UInt8)) : Prop := w.1.length ≤ maxLen ∧ w.2.length ≤ maxLen
theorem opens33 : Opens Tryz.prog 28 2 (fun w : List UInt8 × List (List UInt8 × List UInt8) => [sv w.1, .sl 2 (w.2.flatMap V.fCells)]) worldBulk WorldWf :=
 (opens_struct Tryz.underlying28 (by kernel_rfl) (opensF_cons opens9 rfl (opensF_cons opens31 rfl opensF_nil))).turn (fun a => (a.1, a.2.1)) (fun a h => ⟨rfl, by simp only [worldBulk]; omega, ⟨h.1, h.2.1.2⟩⟩)
theorem files_le {l : List (List UInt8 × List UInt8)} : l.length ≤ sumBulk fileBulk l := sum_len (fun x => by simp only [fileBulk]; omega) l
theorem files_in {l : List (List UInt8 × List UInt8)} {x : List UInt8 × List UInt8} (h : x ∈ l) : x.1.length + x.2.length ≤ sumBulk fileBulk l := by
 have := sum_mem (f := fileBulk) h
 simp only [fileBulk] at this ⊢
 omega
section
variable {H : Type} {enc : TypeId × Value → H} {w : World} {base b0 : Nat} {spare : Nat → Bool} {held : Bool} {v : Value} {d : DataW H} {p : List MemPlace}
set_option maxRecDepth 100000 in
theorem open_world (hv : Value.okWide Tryz.prog w .any b0 28 v) (e : DataW.Trod enc Tryz.prog w base spare held 28 v d p) : ∃ x : List UInt8 × List (List UInt8 × List UInt8), VRep w [] (V.worldT x.1 x.2) v ∧ worldBulk x ≤ Rows.uptoBulk d := by
 obtain ⟨x, _, h1, h2⟩ := opens33.agg Tryz.underlying28 hv e
 exact ⟨x, h1, h2⟩
end
end Go.Proofs.YtlfklgganokgdaaGreat

namespace Go.Proofs.YtlfklgganokgdaaGreat
open Go.ChangeShapes Go.WideShapes Go.ChangeAt Go Go.RowKit
theorem int_u64 {z : Int} (h : (Lit.int .u64 z).wf = true) : 0 ≤ z ∧ z ≤ 18446744073709551615 := by simpa [Lit.wf, IntKind.min, IntKind.max, IntKind.signed, IntKind.bits] using h
set_option maxRecDepth 100000 in
theorem opensU : Opens Tryz.prog 29 1 (fun a : Wd64 => [zw a]) (fun _ => 1) (fun _ => True) :=
 (opens_int Tryz.underlying29 (by kernel_rfl)).turn (fun z => BitVec.ofInt 64 z) (fun z h => ⟨by
  have hz := int_u64 h
  have e : ((BitVec.ofInt 64 z).toNat : Int) = z := by rw [BitVec.toNat_ofInt]; omega
  unfold zw
  rw [e], Nat.le_refl _, trivial⟩)
theorem flat_w : ∀ l : List Wd64, l.flatMap (fun a => [zw a]) = l.map zw
 | [] => rfl
 | a :: l => by rw [List.flatMap_cons, flat_w l]; rfl
theorem opensUs : Opens Tryz.prog 30 1 (fun l : List Wd64 => [.sl 1 (l.map zw)]) (fun l => l.length + 1) (fun _ => True) :=
 (opens_slice Tryz.underlying30 (by kernel_rfl) (by decide) opensU).turn (fun l => l) (fun l h => ⟨by rw [flat_w], by rw [sumBulk_one]; omega, trivial⟩)
structure AskV where
 heap : Wd64
 strict : Bool
 fuel : Int
 places : List Wd64
def askCells (a : AskV) : List T := [zw a.heap, bv a.strict, zi a.fuel, .sl 1 (a.places.map zw)]
theorem opensAsk : Opens Tryz.prog 32 4 askCells (fun a => a.places.length) (fun a => -9223372036854775808 ≤ a.fuel ∧ a.fuel ≤ 9223372036854775807) :=
 (opens_struct Tryz.underlying32 (by kernel_rfl) (opensF_cons opensU rfl (opensF_cons (opens_bool Tryz.underlying4 (by kernel_rfl)) rfl (opensF_cons opens3 rfl (opensF_cons opensUs rfl opensF_nil))))).turn
  (fun a => (⟨a.1, a.2.1, a.2.2.1, a.2.2.2.1⟩ : AskV))
  (fun a h => by
   obtain ⟨_, _, h3, _⟩ := h
   exact ⟨rfl, by simp only []; omega, int_i64 h3⟩)
section
variable {H : Type} {enc : TypeId × Value → H} {w : World} {base b0 : Nat} {spare : Nat → Bool} {held : Bool} {v : Value} {d : DataW H} {p : List MemPlace}
set_option maxRecDepth 100000 in
theorem open_ask (hv : Value.okWide Tryz.prog w .any b0 32 v) (e : DataW.Trod enc Tryz.prog w base spare held 32 v d p) : ∃ x : AskV, (-9223372036854775808 ≤ x.fuel ∧ x.fuel ≤ 9223372036854775807) ∧ VRep w [] (.agg (askCells x)) v ∧ x.places.length ≤ Rows.uptoBulk d := by
 obtain ⟨x, h0, h1, h2⟩ := opensAsk.agg Tryz.underlying32 hv e
 exact ⟨x, h0, h1, h2⟩
end
end Go.Proofs.YtlfklgganokgdaaGreat
