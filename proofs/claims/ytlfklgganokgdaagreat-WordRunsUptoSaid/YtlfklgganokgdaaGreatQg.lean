/-
  TEXTS JOINED: Wk23, Wk24, Za, Zk1, Zk2, VFacts, VAu, VPlain, VWk1, VSay, VWk2, VFile, VWk3, VWk4, VOpenF, VWk5, VNew, VWk8.
-/
import Derived.Test.YtlfklgganokgdaaGreatRows
import Derived.Test.YtlfklgganokgdaaGreatQf
set_option linter.unusedSimpArgs false
set_option linter.unusedVariables false
set_option linter.unusedSectionVars false
set_option linter.unnecessarySimpa false
set_option maxHeartbeats 64000000
namespace Go.Proofs.YtlfklgganokgdaaGreat
open Go Go.RowKit

theorem zero_page : builtOf Tryz.prog 129 [] = some (List.replicate 4096 (u8 0)) := by kernel_rfl
def pgP (n : Wd64) (l : List Pg) : Option Addr := (pgI n l).map fun j => ⟨(l.getD j default).b, 0, none⟩
theorem lk_pg (n : Wd64) (l : List Pg) : (getK (wk n) (pgT l)).getD (.v (.pointer none)) = .v (.pointer (pgP n l)) := by
 rw [getK_pg, pgP]
 cases pgI n l <;> rfl
theorem pgP_none {n : Wd64} {l : List Pg} (h : (pgP n l).isNone = true) : pgI n l = none := by
 unfold pgP at h
 cases hq : pgI n l with
 | none => rfl
 | some j => rw [hq] at h; cases h
theorem pgP_ne {n : Wd64} {l : List Pg} (h : (pgP n l).isNone = false) : ∃ j, pgI n l = some j := by
 unfold pgP at h
 cases hq : pgI n l with
 | none => rw [hq] at h; cases h
 | some j => exact ⟨j, rfl⟩
theorem pgP_some {n : Wd64} {l : List Pg} {j : Nat} (h : pgI n l = some j) : pgP n l = some ⟨(l.getD j default).b, 0, none⟩ := by rw [pgP, h]; rfl
theorem new_b {l : List Pg} {p : Pg} : ((l ++ [p]).getD l.length default) = p := by
 rw [List.getD_eq_getElem?_getD, List.getElem?_append_right (Nat.le_refl _), Nat.sub_self]; rfl
theorem zeros_len : zeros4.length = 4096 := by unfold zeros4; exact List.length_replicate ..
theorem pgE_new (n : Wd64) (b : Nat) : pgE 129 [⟨n, b, zeros4⟩] = [Ent.box b 129 (List.replicate 4096 (u8 0))] := by
 unfold pgE zeros4
 simp only [List.map_cons, List.map_nil, List.map_replicate]
theorem mem_new {X : Ent} {pg : Nat} {l : List Pg} {n : Wd64} {b : Nat} (h : pgI n l = none) : (((X :: memE 129 pg l) ++ [Ent.box b 129 (List.replicate 4096 (u8 0))]).set 1 (Ent.map pg (putK (wk n) (.v (.pointer (sg b))) (pgT l)))) = X :: memE 129 pg (l ++ [⟨n, b, zeros4⟩]) := by
 rw [putK_pg n b zeros4 l h]
 show X :: Ent.map pg (pgT (l ++ [⟨n, b, zeros4⟩])) :: (pgE 129 l ++ [Ent.box b 129 (List.replicate 4096 (u8 0))]) = X :: Ent.map pg (pgT (l ++ [⟨n, b, zeros4⟩])) :: pgE 129 (l ++ [⟨n, b, zeros4⟩])
 rw [pgE_app, pgE_new]
theorem set_take {l : List T} {p : Nat} {r : T} (h : p < l.length) : l.take p ++ [r] ++ l.drop (p + 1) = l.set p r := by
 rw [List.set_eq_take_append_cons_drop, if_pos h, List.append_assoc]; rfl
theorem mem_put {X : Ent} {pg : Nat} {l : List Pg} {j : Nat} {a : Wd64} {x : UInt8} (h : j < l.length) (hl : (l.getD j default).bs.length = 4096) : ((X :: memE 129 pg l).set (j + 2) (Ent.box (l.getD j default).b 129 (((l.getD j default).bs.map u8).take (0 + (a % 4096#64).toNat * 1) ++ cellsT (u8 x) ++ ((l.getD j default).bs.map u8).drop (0 + (a % 4096#64).toNat * 1 + 1)))) = X :: memE 129 pg (pgSet l j (a % 4096#64).toNat x) := by
 rw [Nat.zero_add, Nat.mul_one]
 show X :: Ent.map pg (pgT l) :: (pgE 129 l).set j _ = X :: Ent.map pg (pgT (pgSet l j _ x)) :: pgE 129 (pgSet l j _ x)
 rw [pgT_set h, ← pgE_set h, show cellsT (u8 x) = [u8 x] from rfl, set_take (by rw [List.length_map, hl]; exact lt4096 a)]
theorem byte_at {l : List Pg} {j : Nat} {a : Wd64} (h : pgI (a / 4096#64) l = some j) (hl : PgOk l) : ((l.getD j default).bs.map u8)[0 + (a % 4096#64).toNat * 1]? = some (u8 (getM l a)) := by
 have hj := (pgI_lt h).1
 rw [Nat.zero_add, Nat.mul_one, List.getElem?_map, List.getElem?_eq_getElem (by rw [hl j hj]; exact lt4096 a)]
 unfold getM
 rw [h]
 show some (u8 _) = some (u8 ((l.getD j default).bs.getD _ 0))
 rw [List.getD_eq_getElem?_getD (l := (l.getD j default).bs), List.getElem?_eq_getElem (by rw [hl j hj]; exact lt4096 a)]; rfl
theorem byte_none {l : List Pg} {a : Wd64} (h : pgI (a / 4096#64) l = none) : getM l a = 0 := by
 unfold getM; rw [h]
theorem put30 (s pg : Nat) (ps : PS) (cl : T) (l : List Pg) (hpg : ps.pages = mapT pg) (hl : PgOk l) (a : Wd64) (x : UInt8) :
    ACalls Tryz.prog 28 [pv s, zw a, u8 x] (Ent.box s 83 (psC ps cl) :: memE 129 pg l) (fun t S => t = .tup [] ∧ ∃ l', S = (Ent.box s 83 (psC ps cl) :: memE 129 pg l') ∧ PgOk l' ∧ getM l' = updM (getM l) a x) := by
 obtain ⟨prog, lab, heap, strict, w, pages, ent, st, ans, code, steps⟩ := ps
 obtain rfl : pages = mapT pg := hpg
 refine ai Tryz.func28 Tryz.ntmps28 fun X w0 => ?_
 refine rs (y5 ?_)
 refine Y1 (Yv.quoW (b := 4096#64) rfl (E rfl rfl) (E rfl rfl) (by decide)) ?_
 refine Y1 (Yv.eqT (Yv.lookup1 (k := wk (a / 4096#64)) (i := 1) rfl mp_80 rfl eV eV rfl (good_pg l)) (lk_pg _ _)) ?_
 refine y1 (nl ?_)
 refine AW.mid (α := List Pg × Nat) (fun y => [(0, true, pv s), (1, true, zw a), (2, true, u8 x), (6, true, .v (.pointer (some ⟨(y.1.getD y.2 default).b, 0, none⟩)))]) (fun y => (Ent.box s 83 (psC ⟨prog, lab, heap, strict, w, mapT pg, ent, st, ans, code, steps⟩ cl) :: memE 129 pg y.1)) (fun y => pgI (a / 4096#64) y.1 = some y.2 ∧ PgOk y.1 ∧ getM y.1 = getM l) ?_ ?_
 ·refine rs (y2 (nl ?_))
  refine cq (fun h0t => ?_) fun h0f => ?_
  ·have hq := pgP_none h0t
   refine rs ?_
   refine Y1 (Yv.build (cs := List.replicate 4096 (u8 0)) rfl evp0 (fun _ => zero_page)) ?_
   refine bx fun b17 => ?_
   refine y1 ?_
   refine nl (rg (y5 ?_))
   refine Y1 (Yv.quoW (b := 4096#64) rfl (E rfl rfl) (E rfl rfl) (by decide)) ?_
   refine y1 ?_
   refine AWL.mapUpd (k := wk (a / 4096#64)) (i := 1) rfl rfl (.inl rfl) mp_80 rfl (E rfl rfl) (E rfl rfl) (E rfl rfl) rfl rfl (good_pg l) (nl ?_)
   refine ⟨(l ++ [⟨a / 4096#64, b17, zeros4⟩], l.length), ⟨new_I b17 hq, hl.app zeros_len, get_new b17 hq⟩, (su (su (su (Sub.cons rfl (by rw [new_b]) Sub.nil)))), mem_new hq⟩
  obtain ⟨j, hq⟩ := pgP_ne h0f
  refine sp ?_
  refine ⟨(l, j), ⟨hq, hl, rfl⟩, (su (su (su (Sub.cons rfl (by rw [pgP_some hq]) Sub.nil)))), rfl⟩
 rintro ⟨l2, j⟩ ⟨h1, h2, h3⟩
 dsimp only at h1 h2 h3
 have hj := pgI_lt h1
 refine rg (y2 ?_)
 refine Y1 (Yv.remW (b := 4096#64) rfl (E rfl rfl) (E rfl rfl) (by decide)) ?_
 refine y2 ?_
 refine Y1 (Yv.indexArr (j := (a % 4096#64).toNat) rfl ar_129 eV eV (fun hg => ⟨rfl, lt4096 a⟩)) ?_
 refine AWL.storeBox (i := j + 2) rfl rfl rfl ag_5 (pgE_at (l := l2) hj.1) (E rfl rfl) (E rfl rfl) rfl rfl (by rw [List.length_map, h2 _ hj.1]; have := lt4096 a; omega) (nl ?_)
 refine retN .nil ?_
 exact ⟨rfl, _, mem_put hj.1 (h2 _ hj.1), h2.set _ _ _, (get_set h1 h2 x).trans (by rw [h3])⟩

theorem get65 (s pg : Nat) (ps : PS) (cl : T) (l : List Pg) (hpg : ps.pages = mapT pg) (hl : PgOk l) (a : Wd64) :
    ACalls Tryz.prog 47 [pv s, zw a] (Ent.box s 83 (psC ps cl) :: memE 129 pg l) (fun t S => t = u8 (getM l a) ∧ S = (Ent.box s 83 (psC ps cl) :: memE 129 pg l)) := by
 obtain ⟨prog, lab, heap, strict, w, pages, ent, st, ans, code, steps⟩ := ps
 obtain rfl : pages = mapT pg := hpg
 refine ai Tryz.func47 Tryz.ntmps47 fun X w0 => ?_
 refine rs (y1 ?_)
 refine nl (sq (rs (y5 ?_)))
 refine Y1 (Yv.quoW (b := 4096#64) rfl (E rfl rfl) (E rfl rfl) (by decide)) ?_
 refine Y1 (Yv.eqT (Yv.lookup1 (k := wk (a / 4096#64)) (i := 1) rfl mp_80 rfl eV eV rfl (good_pg l)) (lk_pg _ _)) ?_
 refine y1 ?_
 refine nl (rs (y2 (nl ?_)))
 refine cq (fun h0t => ?_) fun h0f => ?_
 ·obtain ⟨j, hq⟩ := pgP_ne (n := a / 4096#64) (l := l) (by simpa using h0t)
  have hj := pgI_lt hq
  rw [pgP_some hq]
  refine rs (y2 ?_)
  refine Y1 (Yv.remW (b := 4096#64) rfl (E rfl rfl) (E rfl rfl) (by decide)) ?_
  refine y1 ?_
  refine Y1 (Yv.indexArr (j := (a % 4096#64).toNat) rfl ar_129 eV eV (fun hg => ⟨rfl, lt4096 a⟩)) ?_
  refine Y1 (Yv.loadBox (i := j + 2) rfl ag_5 (pgE_at (l := l) hj.1) eV (byte_at hq hl)) ?_
  refine y1 (nl ?_)
  refine rt ?_
  exact ⟨rfl, rfl⟩
 have hq := pgP_none (n := a / 4096#64) (l := l) (by simpa using h0f)
 refine sp (rs (y1 (nl ?_)))
 refine rt ?_
 rw [byte_none hq]
 exact ⟨rfl, rfl⟩

theorem in74 (b4 b5 : Nat) (a n base size : Wd64) :
    ACalls Tryz.prog 74 [zw base, zw size, pv b4, pv b5] [Ent.box b4 29 [zw a], Ent.box b5 29 [zw n]] (fun t S => t = bv (inF a n base size) ∧ S = [Ent.box b4 29 [zw a], Ent.box b5 29 [zw n]]) := by
 refine ai Tryz.func74 Tryz.ntmps74 fun X w0 => ?_
 refine rs (y1 ?_)
 refine nl (rs (y2 ?_))
 refine Y1 (Yv.geqW rfl eV eV) ?_
 refine y3 ?_
 refine gT (Yv.subW rfl (Eg rfl rfl id) (Eg rfl rfl id)) ?_
 refine y1 ?_
 refine gT (Yv.leqW rfl (Eg rfl rfl id) (Eg rfl rfl id)) ?_
 refine y6 ?_
 refine gT (Yv.subW rfl (Eg rfl rfl id) (Eg rfl rfl id)) ?_
 refine gT (Yv.subW rfl (Eg rfl rfl id) (Eg rfl rfl id)) ?_
 refine gT (Yv.leqW rfl (Eg rfl rfl id) (Eg rfl rfl id)) ?_
 refine y2 (nl ?_)
 refine rt ?_
 refine ⟨?_, rfl⟩
 unfold inF
 cases decide (base ≤ a) <;> cases decide (a - base ≤ size) <;> cases decide (n ≤ size - (a - base)) <;> rfl

theorem there64 (s : Nat) (ps : PS) (cl : T) (a n : Wd64) (hd : ps.prog.data.length ≤ 1048576) (hz0 : 0 ≤ ps.prog.zero) (hz1 : ps.prog.zero ≤ 268435456) :
    ACalls Tryz.prog 44 [pv s, zw a, zw n] [Ent.box s 83 (psC ps cl)] (fun t S => t = bv (thereF (psData ps.prog) ps.heap a n) ∧ S = [Ent.box s 83 (psC ps cl)]) := by
 refine lsr (R := (fun t S => t = bv (thereF (psData ps.prog) ps.heap a n) ∧ ([Ent.box s 83 (psC ps cl)] : St).Sublist S)) (fun t S' ⟨h1, h2⟩ => ⟨_, h2, h1, rfl⟩) ?_
 refine ai Tryz.func44 Tryz.ntmps44 fun X w0 => ?_
 refine rs ?_
 refine bx fun b4 => ?_
 refine bx fun b5 => ?_
 refine y1 (nl ?_)
 refine AW.perm (S' := [Ent.box b4 29 [zw a], Ent.box b5 29 [zw n], Ent.box s 83 (psC ps cl)]) (List.perm_append_comm (l₁ := [_, _]) (l₂ := [_])) ?_
 refine rq (q12 ?_)
 refine Q1 (Yv.convW rfl Tryz.underlying3 kd_29 eV) ?_
 refine q1 ?_
 refine nq (rs ?_)
 refine Y1 (Yv.makeFunc rfl evs0 rfl (evsC eV (evsC eV evs0)) rfl) ?_
 refine y1 ?_
 refine nl (rs (y2 ?_))
 refine kk (in74 b4 b5 a n 268435456#64 (psData ps.prog)) ?_
 refine y6 ?_
 refine AWL.callKgF rfl rfl rfl rfl (B rfl) rfl ce_74 (Eg rfl rfl id) (evsC (E rfl rfl) (evsC (Eg rfl rfl id) evs0)) (S1 := [Ent.box b4 29 [zw a], Ent.box b5 29 [zw n]]) (S2 := _) rfl (fun hg => in74 b4 b5 a n 1073741824#64 ps.heap) (fun t S h => h) ?_
 refine y2 (nl ?_)
 refine rt ?_
 exact ⟨by unfold thereF; cases inF a n 268435456#64 (psData ps.prog) <;> rfl, (by simp)⟩


theorem size_in {z : Int} (h : sizeOk z = true) : z = 1 ∨ z = 4 ∨ z = 8 := by
 unfold sizeOk at h
 simp only [Bool.or_eq_true, decide_eq_true_eq] at h
 omega
theorem Load54 (s pg : Nat) (ps : PS) (cl : T) (l : List Pg) (hpg : ps.pages = mapT pg) (hl : PgOk l) (hd : ps.prog.data.length ≤ 1048576) (hz0 : 0 ≤ ps.prog.zero) (hz1 : ps.prog.zero ≤ 268435456) (a : Wd64) (z : Int) :
    ACalls Tryz.prog 19 [pv s, zw a, zi z] (Ent.box s 83 (psC ps cl) :: memE 129 pg l) (fun t S => t = .tup [zw (if (sizeOk z && thereF (psData ps.prog) ps.heap a (wI z)) = true then leF (getM l) a z.toNat else 0#64), bv (sizeOk z && thereF (psData ps.prog) ps.heap a (wI z))] ∧ S = (Ent.box s 83 (psC ps cl) :: memE 129 pg l)) := by
 refine ai Tryz.func19 Tryz.ntmps19 fun X w0 => ?_
 refine rs (y2 ?_)
 refine nl (sq (rs (y18 ?_)))
 refine gF (Yv.convW rfl Tryz.underlying3 kd_29 (Eg rfl rfl id)) ?_
 refine AWL.callKgF rfl rfl rfl rfl (B rfl) rfl ce_44 (E rfl rfl) (evsC (Eg rfl rfl id) (evsC (Eg rfl rfl id) (evsC (Eg rfl rfl id) evs0))) (S1 := [Ent.box s 83 (psC ps cl)]) (S2 := _) rfl (fun hg => there64 s ps cl a (wI z) hd hz0 hz1) (fun t S h => h) ?_
 refine y2 (nl ?_)
 refine cq (fun _ => ?_) fun _ => ?_
 ·have hz : (sizeOk z && thereF (psData ps.prog) ps.heap a (wI z)) = false := by
   unfold sizeOk
   by_cases e1 : z = 1 <;> by_cases e4 : z = 4 <;> by_cases e8 : z = 8 <;> simp_all
  rw [hz]
  refine rs (y2 (nl ?_))
  refine rt ?_
  exact ⟨rfl, rfl⟩
 have hz : sizeOk z = true ∧ thereF (psData ps.prog) ps.heap a (wI z) = true := by
  unfold sizeOk
  by_cases e1 : z = 1 <;> by_cases e4 : z = 4 <;> by_cases e8 : z = 8 <;> simp_all
 have hzk := size_in hz.1
 rw [hz.1, hz.2]
 refine sp (rs (y1 ?_))
 refine nl (sq (rs (y2 ?_)))
 refine nl (bk ?_)
 refine lp1 (fun (k : Nat) => [(0, true, pv s), (1, true, zw a), (2, true, zi z), (8, true, zw (leF (getM l) a k)), (32, true, zi z), (33, true, zv k)]) (fun (k : Nat) => (Ent.box s 83 (psC ps cl) :: memE 129 pg l)) (fun (k : Nat) => (k : Int) ≤ z) (fun (k : Nat) => z.toNat - k) 0 ?_ ?_
 ·exact (by omega : ((0 : Nat) : Int) ≤ z)
 intro k hinv
 refine rs (y1 ?_)
 refine nl (sq ?_)
 refine cq (fun _ => ?_) fun _ => ?_
 ·refine sp (sq (bk (rs (y2 ?_))))
  refine nl (rg (y4 ?_))
  refine Y1 (Yv.convW rfl Tryz.underlying3 kd_29 eV) ?_
  refine Y1 (Yv.addW rfl eV eV) ?_
  refine kk (get65 s pg ps cl l hpg hl (a + wI (k : Int))) ?_
  refine Y1 (Yv.convW rfl Tryz.underlying5 kd_29 eV) ?_
  refine y1 ?_
  refine Y1 (Yv.mulN_i64 rfl eV eV (fun hg => by omega)) ?_
  refine Y1 (Yv.shlW (n := 8 * k) (a := bw (getM l (a + wI (k : Int)))) rfl eV eV (by omega)) ?_
  refine Y1 (Yv.orW rfl eV eV) ?_
  refine y1 ?_
  refine nl (rg (y2 (nl ?_)))
  refine ⟨k + 1, by omega, by omega, sbZ, rfl⟩
 obtain rfl : z = (k : Int) := by omega
 refine xt (rs (y3 (nl ?_)))
 refine rt ?_
 exact ⟨rfl, rfl⟩

theorem Store53 (s pg : Nat) (ps : PS) (cl : T) (l : List Pg) (hpg : ps.pages = mapT pg) (hl : PgOk l) (hd : ps.prog.data.length ≤ 1048576) (hz0 : 0 ≤ ps.prog.zero) (hz1 : ps.prog.zero ≤ 268435456) (a : Wd64) (z : Int) (x : Wd64) :
    ACalls Tryz.prog 17 [pv s, zw a, zi z, zw x] (Ent.box s 83 (psC ps cl) :: memE 129 pg l) (fun t S => t = bv (sizeOk z && thereF (psData ps.prog) ps.heap a (wI z)) ∧ ∃ l', S = (Ent.box s 83 (psC ps cl) :: memE 129 pg l') ∧ PgOk l' ∧ getM l' = if (sizeOk z && thereF (psData ps.prog) ps.heap a (wI z)) = true then putsF (getM l) a x z.toNat else getM l) := by
 refine ai Tryz.func17 Tryz.ntmps17 fun X w0 => ?_
 refine rs (y1 ?_)
 refine nl (sq (rs (y18 ?_)))
 refine gF (Yv.convW rfl Tryz.underlying3 kd_29 (Eg rfl rfl id)) ?_
 refine AWL.callKgF rfl rfl rfl rfl (B rfl) rfl ce_44 (E rfl rfl) (evsC (Eg rfl rfl id) (evsC (Eg rfl rfl id) (evsC (Eg rfl rfl id) evs0))) (S1 := [Ent.box s 83 (psC ps cl)]) (S2 := _) rfl (fun hg => there64 s ps cl a (wI z) hd hz0 hz1) (fun t S h => h) ?_
 refine y2 (nl ?_)
 refine cq (fun _ => ?_) fun _ => ?_
 ·have hz : (sizeOk z && thereF (psData ps.prog) ps.heap a (wI z)) = false := by
   unfold sizeOk
   by_cases e1 : z = 1 <;> by_cases e4 : z = 4 <;> by_cases e8 : z = 8 <;> simp_all
  rw [hz]
  refine rs (y1 (nl ?_))
  refine rt ?_
  exact ⟨rfl, l, rfl, hl, rfl⟩
 have hz : sizeOk z = true ∧ thereF (psData ps.prog) ps.heap a (wI z) = true := by
  unfold sizeOk
  by_cases e1 : z = 1 <;> by_cases e4 : z = 4 <;> by_cases e8 : z = 8 <;> simp_all
 have hzk := size_in hz.1
 rw [hz.1, hz.2]
 refine sp (sq (rs (y2 ?_)))
 refine nl (bk ?_)
 refine lp2 (fun (k : Nat) (l2 : List Pg) => [(0, true, pv s), (1, true, zw a), (2, true, zi z), (3, true, zw x), (32, true, zi z), (33, true, zv k)]) (fun (k : Nat) (l2 : List Pg) => (Ent.box s 83 (psC ps cl) :: memE 129 pg l2)) (fun (k : Nat) (l2 : List Pg) => (k : Int) ≤ z ∧ PgOk l2 ∧ getM l2 = putsF (getM l) a x k) (fun (k : Nat) (l2 : List Pg) => z.toNat - k) 0 l ?_ ?_
 ·exact ⟨(by show ((0 : Nat) : Int) ≤ z; omega), hl, rfl⟩
 intro k l2 ⟨hk0, hl2, hg2⟩
 refine rs (y1 ?_)
 refine nl (sq ?_)
 refine cq (fun _ => ?_) fun _ => ?_
 ·refine sp (sq (bk (rs (y2 ?_))))
  refine nl (rg ?_)
  refine AWL.perm (S' := (Ent.box s 83 (psC ps cl) :: memE 129 pg l2) ++ []) (by rw [List.append_nil]) ?_
  refine y3 ?_
  refine Y1 (Yv.convW rfl Tryz.underlying3 kd_29 eV) ?_
  refine Y1 (Yv.addW rfl eV eV) ?_
  refine y2 ?_
  refine Y1 (Yv.mulN_i64 rfl eV eV (fun hg => by omega)) ?_
  refine Y1 (Yv.shrW (n := 8 * k) rfl eV eV (by omega)) ?_
  refine Y1 (Yv.eqT (Yv.conv rfl Tryz.underlying29 kd_5 eV) (low_u8 _)) ?_
  refine C1 rfl ce_28 (E rfl rfl) (evsC (E rfl rfl) (evsC (E rfl rfl) (evsC (E rfl rfl) evs0))) (S1 := (Ent.box s 83 (psC ps cl) :: memE 129 pg l2)) (S2 := []) rfl (put30 s pg ps cl l2 hpg hl2 (a + wI (k : Int)) (lowB (x >>> (8 * k)))) ?_
  rintro t46 S46 ⟨rfl, l3, rfl, hl3, hg3⟩
  refine nl ?_
  rw [List.append_nil]
  refine rg (y2 (nl ?_))
  refine ⟨k + 1, l3, ⟨by omega, hl3, by rw [hg3, hg2]; rfl⟩, by omega, sbZ, rfl⟩
 obtain rfl : z = (k : Int) := by omega
 refine xt (rs (y1 (nl ?_)))
 refine rt ?_
 exact ⟨rfl, l2, rfl, hl2, hg2⟩

def psD (x : PS) (o : Bool) (cl : T) : List T := psC x cl ++ [bv o]
theorem mul256 (x : Wd64) : 256#64 * x = x <<< 8 := by
 apply BitVec.eq_of_toNat_eq
 rw [BitVec.toNat_mul, BitVec.toNat_shiftLeft, Nat.shiftLeft_eq]
 show 256 * x.toNat % _ = x.toNat * 2 ^ 8 % _
 rw [Nat.mul_comm]
theorem bw_nat (b : UInt8) : (bw b).toNat = b.toNat := by
 have h := b.toNat_lt
 have h2 := wI_nat (b.toNat : Int)
 rw [wrap_u64] at h2
 unfold bw
 omega
theorem bw_bit (b : UInt8) {i : Nat} (h : 8 ≤ i) : (bw b).getLsbD i = false := by
 rw [← BitVec.testBit_toNat, bw_nat]
 refine Nat.testBit_lt_two_pow (Nat.lt_of_lt_of_le b.toNat_lt ?_)
 exact Nat.pow_le_pow_right (by decide) h
theorem add_byte (x : Wd64) (b : UInt8) : x <<< 8 + bw b = (x <<< 8) ||| bw b := by
 refine BitVec.add_eq_or_of_and_eq_zero _ _ ?_
 apply BitVec.eq_of_getLsbD_eq
 intro i hi
 rw [BitVec.getLsbD_and, BitVec.getLsbD_zero]
 by_cases h : 8 ≤ i
 ·rw [bw_bit b h, Bool.and_false]
 rw [BitVec.getLsbD_shiftLeft]
 simp [show i < 8 by omega]
def hlF (m : Mf) (a : Wd64) (z : Nat) : Nat → Wd64
 | 0 => 0#64
 | j + 1 => 256#64 * hlF m a z j + bw (m (a + wI ((z - (j + 1) : Nat) : Int)))
theorem hl_le (m : Mf) (a : Wd64) (z : Nat) : ∀ j, j ≤ z → leF m a z = leF m a (z - j) ||| (hlF m a z j <<< (8 * (z - j)))
 | 0, _ => by rw [hlF, BitVec.zero_shiftLeft, BitVec.or_zero]; rfl
 | j + 1, h => by
  rw [hl_le m a z j (by omega), show z - j = (z - (j + 1)) + 1 by omega, leF, hlF, mul256, add_byte, BitVec.shiftLeft_or_distrib, ← BitVec.shiftLeft_add, show 8 + 8 * (z - (j + 1)) = 8 * (z - (j + 1) + 1) by omega, BitVec.or_assoc]
  congr 1
  exact BitVec.or_comm _ _
theorem hl_all (m : Mf) (a : Wd64) (z : Nat) : hlF m a z z = leF m a z := by
 have h := hl_le m a z z (Nat.le_refl z)
 rw [Nat.sub_self, leF] at h
 rw [h]
 simp
theorem div256 (x : Wd64) (k : Nat) : (x >>> (8 * k)) / 256#64 = x >>> (8 * (k + 1)) := by
 apply BitVec.eq_of_toNat_eq
 rw [BitVec.toNat_udiv, BitVec.toNat_ushiftRight, BitVec.toNat_ushiftRight, Nat.shiftRight_eq_div_pow, Nat.shiftRight_eq_div_pow, Nat.div_div_eq_div_mul]
 show x.toNat / (2 ^ (8 * k) * 2 ^ 8) = _
 rw [← Nat.pow_add]
 rfl
theorem mod_low (x : Wd64) : lowB (x % 256#64) = lowB x := by
 unfold lowB
 apply UInt8.toNat_inj.1
 rw [UInt8.toNat_ofNat', UInt8.toNat_ofNat', BitVec.toNat_umod]
 show x.toNat % 256 % 256 = x.toNat % 256
 omega
theorem pgE_new' (ty : TypeId) (n : Wd64) (b : Nat) : pgE ty [⟨n, b, zeros4⟩] = [Ent.box b ty (List.replicate 4096 (u8 0))] := by
 unfold pgE zeros4
 simp only [List.map_cons, List.map_nil, List.map_replicate]
theorem mem_new' {ty : TypeId} {X : Ent} {pg : Nat} {l : List Pg} {n : Wd64} {b : Nat} (h : pgI n l = none) : (((X :: memE ty pg l) ++ [Ent.box b ty (List.replicate 4096 (u8 0))]).set 1 (Ent.map pg (putK (wk n) (.v (.pointer (some ⟨b, 0, none⟩))) (pgT l)))) = X :: memE ty pg (l ++ [⟨n, b, zeros4⟩]) := by
 rw [putK_pg n b zeros4 l h]
 show X :: Ent.map pg (pgT (l ++ [⟨n, b, zeros4⟩])) :: (pgE ty l ++ [Ent.box b ty (List.replicate 4096 (u8 0))]) = X :: Ent.map pg (pgT (l ++ [⟨n, b, zeros4⟩])) :: pgE ty (l ++ [⟨n, b, zeros4⟩])
 rw [pgE_app, pgE_new']
theorem mem_put' {ty : TypeId} {X : Ent} {pg : Nat} {l : List Pg} {j : Nat} {a : Wd64} {x : UInt8} (h : j < l.length) (hl : (l.getD j default).bs.length = 4096) : ((X :: memE ty pg l).set (j + 2) (Ent.box (l.getD j default).b ty (((l.getD j default).bs.map u8).take (0 + 0 + (a % 4096#64).toNat * 1) ++ cellsT (u8 x) ++ ((l.getD j default).bs.map u8).drop (0 + 0 + (a % 4096#64).toNat * 1 + 1)))) = X :: memE ty pg (pgSet l j (a % 4096#64).toNat x) := by
 rw [Nat.zero_add, Nat.mul_one]
 show X :: Ent.map pg (pgT l) :: (pgE ty l).set j _ = X :: Ent.map pg (pgT (pgSet l j _ x)) :: pgE ty (pgSet l j _ x)
 rw [pgT_set h, ← pgE_set h, show cellsT (u8 x) = [u8 x] from rfl, set_take (by rw [List.length_map, hl]; exact lt4096 a)]
theorem byte_at' {l : List Pg} {j : Nat} {a : Wd64} (h : pgI (a / 4096#64) l = some j) (hl : PgOk l) : ((l.getD j default).bs.map u8)[0 + 0 + (a % 4096#64).toNat * 1]? = some (u8 (getM l a)) := by
 rw [Nat.add_zero]
 exact byte_at h hl

theorem zero_pageD : builtOf Tryz.prog 153 [] = some (List.replicate 4096 (u8 0)) := by kernel_rfl
theorem Dput46 (s pg : Nat) (ps : PS) (ob : Bool) (cl : T) (l : List Pg) (hpg : ps.pages = mapT pg) (hl : PgOk l) (a : Wd64) (x : UInt8) :
    ACalls Tryz.prog 46 [pv s, zw a, u8 x] (Ent.box s 64 (psD ps ob cl) :: memE 153 pg l) (fun t S => t = .tup [] ∧ ∃ l', S = (Ent.box s 64 (psD ps ob cl) :: memE 153 pg l') ∧ PgOk l' ∧ getM l' = updM (getM l) a x) := by
 obtain ⟨prog, lab, heap, strict, w, pages, ent, st, ans, code, steps⟩ := ps
 obtain rfl : pages = mapT pg := hpg
 refine ai Tryz.func46 Tryz.ntmps46 fun X w0 => ?_
 refine rs (y5 ?_)
 refine Y1 (Yv.quoW (b := 4096#64) rfl (E rfl rfl) (E rfl rfl) (by decide)) ?_
 refine Y1 (Yv.eqT (Yv.lookup1 (k := wk (a / 4096#64)) (i := 1) rfl mp_61 rfl eV eV rfl (good_pg l)) (lk_pg _ _)) ?_
 refine y1 (nl ?_)
 refine AW.mid (α := List Pg × Nat) (fun y => [(0, true, pv s), (1, true, zw a), (2, true, u8 x), (6, true, .v (.pointer (some ⟨(y.1.getD y.2 default).b, 0, none⟩)))]) (fun y => (Ent.box s 64 (psD ⟨prog, lab, heap, strict, w, mapT pg, ent, st, ans, code, steps⟩ ob cl) :: memE 153 pg y.1)) (fun y => pgI (a / 4096#64) y.1 = some y.2 ∧ PgOk y.1 ∧ getM y.1 = getM l) ?_ ?_
 ·refine rs (y2 (nl ?_))
  refine cq (fun h0t => ?_) fun h0f => ?_
  ·have hq := pgP_none h0t
   refine rs ?_
   refine Y1 (Yv.build (cs := List.replicate 4096 (u8 0)) rfl evp0 (fun _ => zero_pageD)) ?_
   refine bx fun b17 => ?_
   refine y1 ?_
   refine nl (rg (y5 ?_))
   refine Y1 (Yv.quoW (b := 4096#64) rfl (E rfl rfl) (E rfl rfl) (by decide)) ?_
   refine y1 ?_
   refine AWL.mapUpd (k := wk (a / 4096#64)) (i := 1) rfl rfl (.inl rfl) mp_61 rfl (E rfl rfl) (E rfl rfl) (E rfl rfl) rfl rfl (good_pg l) (nl ?_)
   refine ⟨(l ++ [⟨a / 4096#64, b17, zeros4⟩], l.length), ⟨new_I b17 hq, hl.app zeros_len, get_new b17 hq⟩, (su (su (su (Sub.cons rfl (by rw [new_b]) Sub.nil)))), mem_new' hq⟩
  obtain ⟨j, hq⟩ := pgP_ne h0f
  refine sp ?_
  refine ⟨(l, j), ⟨hq, hl, rfl⟩, (su (su (su (Sub.cons rfl (by rw [pgP_some hq]) Sub.nil)))), rfl⟩
 rintro ⟨l2, j⟩ ⟨h1, h2, h3⟩
 dsimp only at h1 h2 h3
 have hj := pgI_lt h1
 refine rg (y2 ?_)
 refine Y1 (Yv.remW (b := 4096#64) rfl (E rfl rfl) (E rfl rfl) (by decide)) ?_
 refine y3 ?_
 refine Y1 (Yv.indexArr (j := (a % 4096#64).toNat) rfl ar_129 eV eV (fun hg => ⟨rfl, lt4096 a⟩)) ?_
 refine AWL.storeBox (i := j + 2) rfl rfl rfl ag_5 (pgE_at (l := l2) hj.1) (E rfl rfl) (E rfl rfl) rfl rfl (by rw [List.length_map, h2 _ hj.1]; have := lt4096 a; omega) (nl ?_)
 refine retN .nil ?_
 exact ⟨rfl, _, mem_put' hj.1 (h2 _ hj.1), h2.set _ _ _, (get_set h1 h2 x).trans (by rw [h3])⟩

theorem Dget48 (s pg : Nat) (ps : PS) (ob : Bool) (cl : T) (l : List Pg) (hpg : ps.pages = mapT pg) (hl : PgOk l) (a : Wd64) :
    ACalls Tryz.prog 48 [pv s, zw a] (Ent.box s 64 (psD ps ob cl) :: memE 153 pg l) (fun t S => t = u8 (getM l a) ∧ S = (Ent.box s 64 (psD ps ob cl) :: memE 153 pg l)) := by
 obtain ⟨prog, lab, heap, strict, w, pages, ent, st, ans, code, steps⟩ := ps
 obtain rfl : pages = mapT pg := hpg
 refine ai Tryz.func48 Tryz.ntmps48 fun X w0 => ?_
 refine rs (y1 ?_)
 refine nl (rs (y5 ?_))
 refine Y1 (Yv.quoW (b := 4096#64) rfl (E rfl rfl) (E rfl rfl) (by decide)) ?_
 refine Y1 (Yv.eqT (Yv.lookup1 (k := wk (a / 4096#64)) (i := 1) rfl mp_61 rfl eV eV rfl (good_pg l)) (lk_pg _ _)) ?_
 refine y1 ?_
 refine nl (sq (rs (y2 (nl ?_))))
 refine cq (fun h0t => ?_) fun h0f => ?_
 ·have hq := pgP_none (n := a / 4096#64) (l := l) h0t
  refine rs (y1 (nl ?_))
  refine rt ?_
  rw [byte_none hq]
  exact ⟨rfl, rfl⟩
 obtain ⟨j, hq⟩ := pgP_ne (n := a / 4096#64) (l := l) h0f
 have hj := pgI_lt hq
 rw [pgP_some hq]
 refine sp (rs (y2 ?_))
 refine Y1 (Yv.remW (b := 4096#64) rfl (E rfl rfl) (E rfl rfl) (by decide)) ?_
 refine y2 ?_
 refine Y1 (Yv.indexArr (j := (a % 4096#64).toNat) rfl ar_129 eV eV (fun hg => ⟨rfl, lt4096 a⟩)) ?_
 refine Y1 (Yv.loadBox (i := j + 2) rfl ag_5 (pgE_at (l := l) hj.1) eV (byte_at' hq hl)) ?_
 refine y1 (nl ?_)
 refine rt ?_
 exact ⟨rfl, rfl⟩

theorem DThere45 (s : Nat) (ps : PS) (ob : Bool) (cl : T) (a n : Wd64) (hd : ps.prog.data.length ≤ 1048576) (hz0 : 0 ≤ ps.prog.zero) (hz1 : ps.prog.zero ≤ 268435456) :
    ACalls Tryz.prog 45 [pv s, zw a, zw n] [Ent.box s 64 (psD ps ob cl)] (fun t S => t = bv (thereF (psData ps.prog) ps.heap a n) ∧ S = [Ent.box s 64 (psD ps ob cl)]) := by
 refine ai Tryz.func45 Tryz.ntmps45 fun X w0 => ?_
 refine rs (y1 ?_)
 refine nl (rq (q12 ?_))
 refine Q1 (Yv.convW rfl Tryz.underlying3 kd_29 eV) ?_
 refine q1 ?_
 refine nq (sq (rs (y1 ?_)))
 refine Y1 (Yv.geqW (b := 268435456#64) rfl eV eV) ?_
 refine y2 ?_
 refine gT (Yv.subW (b := 268435456#64) rfl (Eg rfl rfl id) eV) ?_
 refine y1 ?_
 refine gT (Yv.leqW rfl (Eg rfl rfl id) (Eg rfl rfl id)) ?_
 refine y5 ?_
 refine gT (Yv.subW (b := 268435456#64) rfl (Eg rfl rfl id) eV) ?_
 refine gT (Yv.subW rfl (Eg rfl rfl id) (Eg rfl rfl id)) ?_
 refine gT (Yv.leqW rfl (Eg rfl rfl id) (Eg rfl rfl id)) ?_
 refine y1 (nl ?_)
 refine cq (fun h0t => ?_) fun h0f => ?_
 ·refine rs (y1 (nl ?_))
  refine rt ?_
  refine ⟨?_, rfl⟩
  have h1 : inF a n 268435456#64 (psData ps.prog) = true := h0t
  unfold thereF
  rw [h1]
  rfl
 refine sp (rs (y1 ?_))
 refine Y1 (Yv.geqW (b := 1073741824#64) rfl eV eV) ?_
 refine y2 ?_
 refine gT (Yv.subW (b := 1073741824#64) rfl (Eg rfl rfl id) eV) ?_
 refine y4 ?_
 refine gT (Yv.leqW rfl (Eg rfl rfl id) (Eg rfl rfl id)) ?_
 refine y8 ?_
 refine gT (Yv.subW (b := 1073741824#64) rfl (Eg rfl rfl id) eV) ?_
 refine gT (Yv.subW rfl (Eg rfl rfl id) (Eg rfl rfl id)) ?_
 refine gT (Yv.leqW rfl (Eg rfl rfl id) (Eg rfl rfl id)) ?_
 refine y2 (nl ?_)
 refine rt ?_
 refine ⟨?_, rfl⟩
 have h1 : inF a n 268435456#64 (psData ps.prog) = false := h0f
 unfold thereF
 rw [h1]
 rfl


theorem DLoad20 (s pg : Nat) (ps : PS) (ob : Bool) (cl : T) (l : List Pg) (hpg : ps.pages = mapT pg) (hl : PgOk l) (hd : ps.prog.data.length ≤ 1048576) (hz0 : 0 ≤ ps.prog.zero) (hz1 : ps.prog.zero ≤ 268435456) (a : Wd64) (z : Int) :
    ACalls Tryz.prog 20 [pv s, zw a, zi z] (Ent.box s 64 (psD ps ob cl) :: memE 153 pg l) (fun t S => t = .tup [zw (if (sizeOk z && thereF (psData ps.prog) ps.heap a (wI z)) = true then leF (getM l) a z.toNat else 0#64), bv (sizeOk z && thereF (psData ps.prog) ps.heap a (wI z))] ∧ S = (Ent.box s 64 (psD ps ob cl) :: memE 153 pg l)) := by
 refine ai Tryz.func20 Tryz.ntmps20 fun X w0 => ?_
 refine rs (y2 ?_)
 refine nl (sq (rs (y10 (nl ?_))))
 refine cq (fun _ => ?_) fun _ => ?_
 ·have hz : (sizeOk z && thereF (psData ps.prog) ps.heap a (wI z)) = false := by
   have h1 : sizeOk z = false := by
    unfold sizeOk
    by_cases e1 : z = 1 <;> by_cases e4 : z = 4 <;> by_cases e8 : z = 8 <;> simp_all
   rw [h1]; rfl
  rw [hz]
  refine rs (y2 (nl ?_))
  refine rt ?_
  exact ⟨rfl, rfl⟩
 have hz0k : sizeOk z = true := by
  unfold sizeOk
  by_cases e1 : z = 1 <;> by_cases e4 : z = 4 <;> by_cases e8 : z = 8 <;> simp_all
 have hzk := size_in hz0k
 refine sp (rs (y3 ?_))
 refine Y1 (Yv.convW rfl Tryz.underlying3 kd_29 eV) ?_
 refine kk (DThere45 s ps ob cl a (wI z) hd hz0 hz1) ?_
 refine y1 ?_
 refine nl (sq (rs (y2 (nl ?_))))
 refine cq (fun h1t => ?_) fun h1f => ?_
 ·have hz : (sizeOk z && thereF (psData ps.prog) ps.heap a (wI z)) = false := by
   rw [hz0k, Bool.true_and]
   simpa using h1t
  rw [hz]
  refine rs (y2 (nl ?_))
  refine rt ?_
  exact ⟨rfl, rfl⟩
 have hth : thereF (psData ps.prog) ps.heap a (wI z) = true := by simpa using h1f
 rw [hz0k, hth]
 refine sp (rs (y1 ?_))
 refine nl (sq (rs (y3 ?_)))
 refine nl (bk ?_)
 refine AW.loop (fun (j : Nat) => [(0, true, pv s), (1, true, zw a), (2, true, zi z), (9, true, zw (hlF (getM l) a z.toNat j)), (10, true, zi (z - 1 - (j : Int)))]) (fun (j : Nat) => (Ent.box s 64 (psD ps ob cl) :: memE 153 pg l)) (fun (j : Nat) => (j : Int) ≤ z) (fun (j : Nat) => z.toNat - j) 0 ?_ ?_ ?_ ?_
 ·exact (by omega : ((0 : Nat) : Int) ≤ z)
 ·exact (su (su (su (su (Sub.cons rfl (congrArg zi (by omega)) Sub.nil)))))
 ·rfl
 intro j hinv
 refine sq (rs (y2 (nl ?_)))
 refine cq (fun _ => ?_) fun _ => ?_
 ·refine sp (sq (bk (rg (y1 ?_))))
  refine Y1 (Yv.mulW (a := 256#64) rfl eV eV) ?_
  refine y3 ?_
  refine Y1 (Yv.convW rfl Tryz.underlying3 kd_29 eV) ?_
  refine Y1 (Yv.addW rfl eV eV) ?_
  refine kk (Dget48 s pg ps ob cl l hpg hl (a + wI (z - 1 - (j : Int)))) ?_
  refine Y1 (Yv.convW rfl Tryz.underlying5 kd_29 eV) ?_
  refine Y1 (Yv.addW rfl eV eV) ?_
  refine y1 ?_
  refine nl (rg (y3 (nl ?_)))
  refine ⟨j + 1, by omega, by omega, (su (su (su (Sub.cons rfl (by rw [hlF, show ((z.toNat - (j + 1) : Nat) : Int) = z - 1 - (j : Int) by omega]; rfl) (Sub.cons rfl (congrArg zi (by omega)) Sub.nil))))), rfl⟩
 obtain rfl : z = (j : Int) := by omega
 have hla := hl_all (getM l) a j
 refine xt (rs (y3 (nl ?_)))
 refine rt ?_
 refine ⟨?_, rfl⟩
 show T.tup [zw (hlF (getM l) a j j), bv true] = T.tup [zw (leF (getM l) a j), bv true]
 rw [hla]

theorem DStore18 (s pg : Nat) (ps : PS) (ob : Bool) (cl : T) (l : List Pg) (hpg : ps.pages = mapT pg) (hl : PgOk l) (hd : ps.prog.data.length ≤ 1048576) (hz0 : 0 ≤ ps.prog.zero) (hz1 : ps.prog.zero ≤ 268435456) (a : Wd64) (z : Int) (x : Wd64) :
    ACalls Tryz.prog 18 [pv s, zw a, zi z, zw x] (Ent.box s 64 (psD ps ob cl) :: memE 153 pg l) (fun t S => t = bv (sizeOk z && thereF (psData ps.prog) ps.heap a (wI z)) ∧ ∃ l', S = (Ent.box s 64 (psD ps ob cl) :: memE 153 pg l') ∧ PgOk l' ∧ getM l' = if (sizeOk z && thereF (psData ps.prog) ps.heap a (wI z)) = true then putsF (getM l) a x z.toNat else getM l) := by
 refine ai Tryz.func18 Tryz.ntmps18 fun X w0 => ?_
 refine rs (y1 ?_)
 refine nl (sq (rs (y10 (nl ?_))))
 refine cq (fun _ => ?_) fun _ => ?_
 ·have hz : (sizeOk z && thereF (psData ps.prog) ps.heap a (wI z)) = false := by
   have h1 : sizeOk z = false := by
    unfold sizeOk
    by_cases e1 : z = 1 <;> by_cases e4 : z = 4 <;> by_cases e8 : z = 8 <;> simp_all
   rw [h1]; rfl
  rw [hz]
  refine rs (y1 (nl ?_))
  refine rt ?_
  exact ⟨rfl, l, rfl, hl, rfl⟩
 have hz0k : sizeOk z = true := by
  unfold sizeOk
  by_cases e1 : z = 1 <;> by_cases e4 : z = 4 <;> by_cases e8 : z = 8 <;> simp_all
 have hzk := size_in hz0k
 refine sp (rs (y3 ?_))
 refine Y1 (Yv.convW rfl Tryz.underlying3 kd_29 eV) ?_
 refine kk (DThere45 s ps ob cl a (wI z) hd hz0 hz1) ?_
 refine y1 ?_
 refine nl (sq (rs (y2 (nl ?_))))
 refine cq (fun h1t => ?_) fun h1f => ?_
 ·have hz : (sizeOk z && thereF (psData ps.prog) ps.heap a (wI z)) = false := by
   rw [hz0k, Bool.true_and]
   simpa using h1t
  rw [hz]
  refine rs (y1 (nl ?_))
  refine rt ?_
  exact ⟨rfl, l, rfl, hl, rfl⟩
 have hth : thereF (psData ps.prog) ps.heap a (wI z) = true := by simpa using h1f
 rw [hz0k, hth]
 refine sp (sq (rs (y1 ?_)))
 refine nl (bk ?_)
 refine AW.loop2 (fun (k : Nat) (l2 : List Pg) => [(0, true, pv s), (1, true, zw a), (2, true, zi z), (3, true, zw (x >>> (8 * k))), (10, true, zv k)]) (fun (k : Nat) (l2 : List Pg) => (Ent.box s 64 (psD ps ob cl) :: memE 153 pg l2)) (fun (k : Nat) (l2 : List Pg) => (k : Int) ≤ z ∧ PgOk l2 ∧ getM l2 = putsF (getM l) a x k) (fun (k : Nat) (l2 : List Pg) => z.toNat - k) 0 l ?_ ?_ ?_ ?_
 ·exact ⟨(by show ((0 : Nat) : Int) ≤ z; omega), hl, rfl⟩
 ·exact (su (su (su (Sub.cons rfl (congrArg zw (show x >>> (8 * 0) = x from BitVec.ushiftRight_zero x)) sbZ))))
 ·rfl
 intro k l2 ⟨hk0, hl2, hg2⟩
 refine sq (rs (y3 (nl ?_)))
 refine cq (fun _ => ?_) fun _ => ?_
 ·refine sp (sq (bk (rs ?_)))
  refine AWL.perm (S' := (Ent.box s 64 (psD ps ob cl) :: memE 153 pg l2) ++ []) (by rw [List.append_nil]) ?_
  refine y3 ?_
  refine Y1 (Yv.convW rfl Tryz.underlying3 kd_29 eV) ?_
  refine Y1 (Yv.addW rfl eV eV) ?_
  refine y1 ?_
  refine Y1 (Yv.remW (b := 256#64) rfl (E rfl rfl) (E rfl rfl) (by decide)) ?_
  refine Y1 (Yv.eqT (Yv.conv rfl Tryz.underlying29 kd_5 eV) ((low_u8 _).trans (congrArg u8 (mod_low _)))) ?_
  refine C1 rfl ce_46 (E rfl rfl) (evsC (E rfl rfl) (evsC (E rfl rfl) (evsC (E rfl rfl) evs0))) (S1 := (Ent.box s 64 (psD ps ob cl) :: memE 153 pg l2)) (S2 := []) rfl (Dput46 s pg ps ob cl l2 hpg hl2 (a + wI (k : Int)) (lowB (x >>> (8 * k)))) ?_
  rintro t41 S41 ⟨rfl, l3, rfl, hl3, hg3⟩
  refine nl ?_
  rw [List.append_nil]
  refine rg (y1 ?_)
  refine Y1 (Yv.quoW (b := 256#64) rfl (E rfl rfl) (E rfl rfl) (by decide)) ?_
  refine y1 ?_
  refine nl (rg (y3 (nl ?_)))
  refine ⟨k + 1, l3, ⟨by omega, hl3, by rw [hg3, hg2]; rfl⟩, by omega, (su (su (su (Sub.cons rfl (congrArg zw (div256 x k).symm) sbZ)))), rfl⟩
 obtain rfl : z = (k : Int) := by omega
 refine xt (rs (y1 (nl ?_)))
 refine rt ?_
 exact ⟨rfl, l2, rfl, hl2, hg2⟩

end Go.Proofs.YtlfklgganokgdaaGreat

namespace Go.Proofs.YtlfklgganokgdaaGreat.V
open Go
theorem ag_112 : AG 112 false 1 := AGm
theorem ag_113 : AG 113 false 1 := AGm
theorem ag_137 : AG 137 true 3 := AGm
theorem ag_149 : AG 149 true 3 := AGm
theorem ag_163 : AG 163 true 2 := AGm
theorem ag_23 : AG 23 false 1 := AGm
theorem ag_26 : AG 26 false 1 := AGm
theorem ag_3 : AG 3 false 1 := AGm
theorem ag_5 : AG 5 false 1 := AGm
theorem ag_67 : AG 67 false 1 := AGm
theorem ag_70 : AG 70 true 3 := AGm
theorem ag_72 : AG 72 false 1 := AGm
theorem ag_76 : AG 76 true 2 := AGm
theorem ag_9 : AG 9 false 1 := AGm
theorem ar_71 : arrOf Tryz.prog 71 = some (19, 3) := by kernel_rfl
theorem by_23 : isBytes Tryz.prog 23 = true := by kernel_rfl
theorem ce_105 : CE 105 := CEm
theorem ce_108 : CE 108 := CEm
theorem ce_109 : CE 109 := CEm
theorem ce_112 : CE 112 := CEm
theorem ce_24 : CE 24 := CEm
theorem ce_25 : CE 25 := CEm
theorem ce_49 : CE 49 := CEm
theorem ce_50 : CE 50 := CEm
theorem ce_58 : CE 58 := CEm
theorem ce_59 : CE 59 := CEm
theorem ce_60 : CE 60 := CEm
theorem ce_73 : CE 73 := CEm
theorem ce_75 : CE 75 := CEm
theorem ce_81 : CE 81 := CEm
theorem el_112 : elemOf Tryz.prog 112 = some (163, 2, 40, [.string ⟨#[]⟩, .slice none 0 0]) := by kernel_rfl
theorem el_113 : elemOf Tryz.prog 113 = some (137, 3, 32, [.int .i64 0, .string ⟨#[]⟩, .int .i64 0]) := by kernel_rfl
theorem el_23 : elemOf Tryz.prog 23 = some (5, 1, 1, [.int .u8 0]) := by kernel_rfl
theorem el_72 : elemOf Tryz.prog 72 = some (149, 3, 40, [.int .i64 0, .string ⟨#[]⟩, .string ⟨#[]⟩]) := by kernel_rfl
theorem fl_149 : flatOf Tryz.prog 149 = some [(0, .i), (1, .s), (2, .s)] := by kernel_rfl
theorem fo_115_0 : FO 115 0 0 := FOm
theorem fo_115_1 : FO 115 1 1 := FOm
theorem fo_115_2 : FO 115 2 2 := FOm
theorem fo_115_3 : FO 115 3 3 := FOm
theorem fo_137_0 : FO 137 0 0 := FOm
theorem fo_137_1 : FO 137 1 1 := FOm
theorem fo_137_2 : FO 137 2 2 := FOm
theorem fo_149_0 : FO 149 0 0 := FOm
theorem fo_149_1 : FO 149 1 1 := FOm
theorem fo_149_2 : FO 149 2 2 := FOm
theorem fo_163_0 : FO 163 0 0 := FOm
theorem fo_163_1 : FO 163 1 1 := FOm
theorem fo_28_0 : FO 28 0 0 := FOm
theorem fo_28_1 : FO 28 1 1 := FOm
theorem fo_70_0 : FO 70 0 0 := FOm
theorem fo_70_1 : FO 70 1 1 := FOm
theorem fo_70_2 : FO 70 2 2 := FOm
theorem fo_74_0 : FO 74 0 0 := FOm
theorem fo_74_1 : FO 74 1 1 := FOm
theorem fo_74_2 : FO 74 2 2 := FOm
theorem fo_74_3 : FO 74 3 59 := FOm
theorem fo_76_0 : FO 76 0 0 := FOm
theorem fo_76_1 : FO 76 1 1 := FOm
theorem kd_29 : kindOf Tryz.prog 29 = some .u64 := by kernel_rfl
theorem kd_3 : kindOf Tryz.prog 3 = some .i64 := by kernel_rfl
theorem kd_5 : kindOf Tryz.prog 5 = some .u8 := by kernel_rfl
theorem mp_67 : mapOf Tryz.prog 67 = some (.string, 9, 23, .slice none 0 0) := by kernel_rfl
theorem pn_33 : ptrOf Tryz.prog 33 = true := by kernel_rfl
theorem pt_154 : ptrTo Tryz.prog 154 = some 5 := by kernel_rfl
theorem sh_115 : structShape Tryz.prog 115 = some ([.slice none 0 0, .string ⟨#[]⟩, .slice none 0 0, .slice none 0 0], [(0, 1), (1, 1), (2, 1), (3, 1)]) := by kernel_rfl
theorem sh_137 : structShape Tryz.prog 137 = some ([.int .i64 0, .string ⟨#[]⟩, .int .i64 0], [(0, 1), (1, 1), (2, 1)]) := by kernel_rfl
theorem sh_149 : structShape Tryz.prog 149 = some ([.int .i64 0, .string ⟨#[]⟩, .string ⟨#[]⟩], [(0, 1), (1, 1), (2, 1)]) := by kernel_rfl
theorem sh_163 : structShape Tryz.prog 163 = some ([.string ⟨#[]⟩, .slice none 0 0], [(0, 1), (1, 1)]) := by kernel_rfl
theorem sh_70 : structShape Tryz.prog 70 = some ([.int .i64 0, .string ⟨#[]⟩, .int .i64 0], [(0, 1), (1, 1), (2, 1)]) := by kernel_rfl
theorem sh_74 : structShape Tryz.prog 74 = some ([.map none, .string ⟨#[]⟩, .int .i64 0, .string ⟨#[]⟩, .int .i64 0, .int .i64 0, .string ⟨#[]⟩, .int .i64 0, .int .i64 0, .string ⟨#[]⟩, .int .i64 0, .int .i64 0, .string ⟨#[]⟩, .int .i64 0, .int .i64 0, .string ⟨#[]⟩, .int .i64 0, .int .i64 0, .string ⟨#[]⟩, .int .i64 0, .int .i64 0, .string ⟨#[]⟩, .int .i64 0, .int .i64 0, .string ⟨#[]⟩, .int .i64 0, .int .i64 0, .string ⟨#[]⟩, .int .i64 0, .int .i64 0, .string ⟨#[]⟩, .int .i64 0, .int .i64 0, .string ⟨#[]⟩, .int .i64 0, .int .i64 0, .string ⟨#[]⟩, .int .i64 0, .int .i64 0, .string ⟨#[]⟩, .int .i64 0, .int .i64 0, .string ⟨#[]⟩, .int .i64 0, .int .i64 0, .string ⟨#[]⟩, .int .i64 0, .int .i64 0, .string ⟨#[]⟩, .int .i64 0, .int .i64 0, .string ⟨#[]⟩, .int .i64 0, .int .i64 0, .string ⟨#[]⟩, .int .i64 0, .int .i64 0, .string ⟨#[]⟩, .int .i64 0, .slice none 0 0], [(0, 1), (1, 1), (2, 57), (59, 1)]) := by kernel_rfl
theorem so_112 : SO 112 163 := SOm
theorem so_23 : SO 23 5 := SOm
theorem so_26 : SO 26 76 := SOm
theorem so_72 : SO 72 149 := SOm
theorem ss_112 : SS 112 163 2 := SSm
theorem ss_113 : SS 113 137 3 := SSm
theorem ss_23 : SS 23 5 1 := SSm
theorem ss_26 : SS 26 76 2 := SSm
theorem ss_72 : SS 72 149 3 := SSm
theorem st_9 : isStr Tryz.prog 9 = true := by kernel_rfl
theorem zc_76 : zeroCellsOf Tryz.prog 76 = some [.string ⟨#[]⟩, .string ⟨#[]⟩] := by kernel_rfl
theorem fF {P : Prop} (h : P := by with_reducible first | exact fo_115_0 | exact fo_115_1 | exact fo_115_2 | exact fo_115_3 | exact fo_137_0 | exact fo_137_1 | exact fo_137_2 | exact fo_149_0 | exact fo_149_1 | exact fo_149_2 | exact fo_163_0 | exact fo_163_1 | exact fo_28_0 | exact fo_28_1 | exact fo_70_0 | exact fo_70_1 | exact fo_70_2 | exact fo_74_0 | exact fo_74_1 | exact fo_74_2 | exact fo_74_3 | exact fo_76_0 | exact fo_76_1) : P := h
theorem fA {P : Prop} (h : P := by with_reducible first | exact ag_112 | exact ag_113 | exact ag_137 | exact ag_149 | exact ag_163 | exact ag_23 | exact ag_26 | exact ag_3 | exact ag_5 | exact ag_67 | exact ag_70 | exact ag_72 | exact ag_76 | exact ag_9) : P := h
theorem fK {P : Prop} (h : P := by with_reducible first | exact kd_29 | exact kd_3 | exact kd_5) : P := h
theorem fS {P : Prop} (h : P := by with_reducible first | exact so_112 | exact so_23 | exact so_26 | exact so_72) : P := h
theorem fX {P : Prop} (h : P := by with_reducible first | exact ss_112 | exact ss_113 | exact ss_23 | exact ss_26 | exact ss_72) : P := h
theorem fT {P : Prop} (h : P := by with_reducible first | exact st_9) : P := h
theorem fN {P : Prop} (h : P := by with_reducible first | exact pn_33) : P := h
theorem fH {P : Prop} (h : P := by with_reducible first | exact sh_115 | exact sh_137 | exact sh_149 | exact sh_163 | exact sh_70 | exact sh_74) : P := h
theorem fY {P : Prop} (h : P := by with_reducible first | exact by_23) : P := h
theorem fR {P : Prop} (h : P := by with_reducible first | exact ar_71) : P := h
theorem fZ {P : Prop} (h : P := by with_reducible first | exact zc_76) : P := h
theorem fC {P : Prop} (h : P := by with_reducible first | exact ce_105 | exact ce_108 | exact ce_109 | exact ce_112 | exact ce_24 | exact ce_25 | exact ce_49 | exact ce_50 | exact ce_58 | exact ce_59 | exact ce_60 | exact ce_73 | exact ce_75 | exact ce_81) : P := h
theorem ceZ {P : Prop} (h : P := by
 intro hg
 first | exact fcn_at (by first | omega | (simp only [Bool.or_eq_true, Bool.and_eq_true, Bool.or_eq_false_iff, Bool.and_eq_false_iff, Bool.not_eq_true', Bool.not_eq_false', decide_eq_true_eq, decide_eq_false_iff_not, Decidable.not_not] at hg; omega) | (dsimp only; omega)) | exact fct_at (by first | omega | (simp only [Bool.or_eq_true, Bool.and_eq_true, Bool.or_eq_false_iff, Bool.and_eq_false_iff, Bool.not_eq_true', Bool.not_eq_false', decide_eq_true_eq, decide_eq_false_iff_not, Decidable.not_not] at hg; omega) | (dsimp only; omega)) | exact fby_at (by first | omega | (simp only [Bool.or_eq_true, Bool.and_eq_true, Bool.or_eq_false_iff, Bool.and_eq_false_iff, Bool.not_eq_true', Bool.not_eq_false', decide_eq_true_eq, decide_eq_false_iff_not, Decidable.not_not] at hg; omega) | (dsimp only; omega)) | exact dnm_at (by first | omega | (simp only [Bool.or_eq_true, Bool.and_eq_true, Bool.or_eq_false_iff, Bool.and_eq_false_iff, Bool.not_eq_true', Bool.not_eq_false', decide_eq_true_eq, decide_eq_false_iff_not, Decidable.not_not] at hg; omega) | (dsimp only; omega)) | exact dkd_at (by first | omega | (simp only [Bool.or_eq_true, Bool.and_eq_true, Bool.or_eq_false_iff, Bool.and_eq_false_iff, Bool.not_eq_true', Bool.not_eq_false', decide_eq_true_eq, decide_eq_false_iff_not, Decidable.not_not] at hg; omega) | (dsimp only; omega)) | exact fnm_at (by first | omega | (simp only [Bool.or_eq_true, Bool.and_eq_true, Bool.or_eq_false_iff, Bool.and_eq_false_iff, Bool.not_eq_true', Bool.not_eq_false', decide_eq_true_eq, decide_eq_false_iff_not, Decidable.not_not] at hg; omega) | (dsimp only; omega)) | exact lay_nm (by first | omega | (simp only [Bool.or_eq_true, Bool.and_eq_true, Bool.or_eq_false_iff, Bool.and_eq_false_iff, Bool.not_eq_true', Bool.not_eq_false', decide_eq_true_eq, decide_eq_false_iff_not, Decidable.not_not] at hg; omega) | (dsimp only; omega)) | exact lay_nb (by first | omega | (simp only [Bool.or_eq_true, Bool.and_eq_true, Bool.or_eq_false_iff, Bool.and_eq_false_iff, Bool.not_eq_true', Bool.not_eq_false', decide_eq_true_eq, decide_eq_false_iff_not, Decidable.not_not] at hg; omega) | (dsimp only; omega)) | exact evt_at (by first | omega | (simp only [Bool.or_eq_true, Bool.and_eq_true, Bool.or_eq_false_iff, Bool.and_eq_false_iff, Bool.not_eq_true', Bool.not_eq_false', decide_eq_true_eq, decide_eq_false_iff_not, Decidable.not_not] at hg; omega) | (dsimp only; omega)) | exact evn_at (by first | omega | (simp only [Bool.or_eq_true, Bool.and_eq_true, Bool.or_eq_false_iff, Bool.and_eq_false_iff, Bool.not_eq_true', Bool.not_eq_false', decide_eq_true_eq, decide_eq_false_iff_not, Decidable.not_not] at hg; omega) | (dsimp only; omega)) | exact evk_at (by first | omega | (simp only [Bool.or_eq_true, Bool.and_eq_true, Bool.or_eq_false_iff, Bool.and_eq_false_iff, Bool.not_eq_true', Bool.not_eq_false', decide_eq_true_eq, decide_eq_false_iff_not, Decidable.not_not] at hg; omega) | (dsimp only; omega)) | exact byte_at (by first | omega | (simp only [Bool.or_eq_true, Bool.and_eq_true, Bool.or_eq_false_iff, Bool.and_eq_false_iff, Bool.not_eq_true', Bool.not_eq_false', decide_eq_true_eq, decide_eq_false_iff_not, Decidable.not_not] at hg; omega) | (dsimp only; omega))) : P := h
theorem lsZ {P : Prop} (h : P := by first | exact len_fc | exact len_ev) : P := h
theorem loZ {P : Prop} (h : P := by first | omega | (simp only [len_fc]; omega) | (simp only [len_ev]; omega)) : P := h
theorem spZ {P : Prop} (h : P := by first | omega | (rw [List.length_map]; omega) | (rw [len_files]; omega) | (rw [len_ev]; omega)) : P := h
structure Desc where
 kind : Int
 name : List UInt8
 place : Nat
 deriving Inhabited, DecidableEq
structure Evt where
 kind : Int
 name : List UInt8
 text : List UInt8
 deriving Inhabited, DecidableEq
structure FileR where
 name : List UInt8
 bytes : List UInt8
 A : Option Addr
 c : Nat
 deriving Inhabited
structure WS where
 files : List FileR
 stdin : List UInt8
 opn : List Desc
 trace : List Evt
 tA : Option Addr
 tc : Nat
 deriving Inhabited
def descCells (d : Desc) : List T := [.v (.int .i64 d.kind), sv d.name, .v (.int .i64 (d.place : Int))]
def evCells (e : Evt) : List T := [.v (.int .i64 e.kind), sv e.name, sv e.text]
def wCells (m : Nat) (s : List UInt8) (o : List Desc) (A : Option Addr) (n c : Nat) : List T := [.v (.map (some m)), sv s] ++ o.flatMap descCells ++ [.v (.slice A n c)]
def fileKey (f : FileR) : Key × T := (.s f.name, .v (.slice f.A f.bytes.length f.c))
def fileRow (f : FileR) : Ent := .row f.A f.bytes.length f.c 5 1 (f.bytes.map u8)
def WSt (b m : Nat) (ws : WS) : St := .box b 74 (wCells m ws.stdin ws.opn ws.tA ws.trace.length ws.tc) :: .map m (ws.files.map fileKey) :: .row ws.tA ws.trace.length ws.tc 149 3 (ws.trace.flatMap evCells) :: ws.files.map fileRow
def wp (b : Nat) : T := .v (.pointer (some ⟨b, 0, none⟩))

theorem len_flat {α : Type} {f : α → List T} {k : Nat} (hk : ∀ a, (f a).length = k) : ∀ (l : List α), (l.flatMap f).length = l.length * k
 | [] => by simp
 | a :: r => by rw [List.flatMap_cons, List.length_append, hk, len_flat hk r, List.length_cons, Nat.add_mul]; omega
theorem drop_flat {α : Type} {f : α → List T} {k : Nat} (hk : ∀ a, (f a).length = k) : ∀ (l : List α) (j : Nat), (l.flatMap f).drop (j * k) = (l.drop j).flatMap f
 | [], j => by simp
 | a :: r, 0 => by simp
 | a :: r, j + 1 => by
  rw [List.flatMap_cons, Nat.add_mul, Nat.one_mul, Nat.add_comm, List.drop_append, List.drop_of_length_le (by rw [hk]; omega), hk, List.nil_append, Nat.add_sub_cancel_left, drop_flat hk r j]
  rfl
theorem getD_eq' {α : Type} [Inhabited α] {l : List α} {j : Nat} (h : j < l.length) : l.getD j default = l[j] := by simp [h]
theorem flat_at {α : Type} [Inhabited α] {f : α → List T} {k : Nat} (hk : ∀ a, (f a).length = k) {l : List α} {j : Nat} (h : j < l.length) (i : Nat) (hi : i < k) : (l.flatMap f)[j * k + i]? = (f (l.getD j default))[i]? := by
 rw [← List.getElem?_drop, drop_flat hk, List.drop_eq_getElem_cons h, List.flatMap_cons, getD_eq' h, List.getElem?_append_left (by rw [hk]; exact hi)]
theorem mid_set {X F Y new : List T} {p i n : Nat} (hX : X.length = p) (hF : i + n ≤ F.length) : (X ++ (F ++ Y)).take (p + i) ++ new ++ (X ++ (F ++ Y)).drop (p + i + n) = X ++ ((F.take i ++ new ++ F.drop (i + n)) ++ Y) := by
 subst hX
 rw [List.take_append, List.drop_append, List.take_of_length_le (l := X) (by omega), List.drop_of_length_le (l := X) (by omega), Nat.add_sub_cancel_left, show X.length + i + n - X.length = i + n by omega, List.nil_append]
 rw [List.take_append_of_le_length (by omega), List.drop_append_of_le_length hF]
 simp only [List.append_assoc]
theorem flat_set {α : Type} [Inhabited α] {f : α → List T} {k : Nat} (hk : ∀ a, (f a).length = k) {l : List α} {j : Nat} (h : j < l.length) (i n : Nat) (new : List T) (a' : α) (hin : i + n ≤ k) (he : f a' = (f (l.getD j default)).take i ++ new ++ (f (l.getD j default)).drop (i + n)) :
    (l.flatMap f).take (j * k + i) ++ new ++ (l.flatMap f).drop (j * k + i + n) = (l.set j a').flatMap f := by
 have e0 : l = l.take j ++ l[j] :: l.drop (j + 1) := by rw [← List.drop_eq_getElem_cons h, List.take_append_drop]
 have e1 : l.set j a' = l.take j ++ a' :: l.drop (j + 1) := by rw [List.set_eq_take_append_cons_drop, if_pos h]
 have hL : ((l.take j).flatMap f).length = j * k := by rw [len_flat hk, List.length_take, Nat.min_eq_left (by omega)]
 have e2 : l.flatMap f = (l.take j).flatMap f ++ (f l[j] ++ (l.drop (j + 1)).flatMap f) := by
  conv => lhs; rw [e0]
  rw [List.flatMap_append, List.flatMap_cons]
 rw [e1, List.flatMap_append, List.flatMap_cons, he, e2, getD_eq' h]
 exact mid_set hL (by rw [hk]; exact hin)
theorem dk (d : Desc) : (descCells d).length = 3 := rfl
theorem ek (e : Evt) : (evCells e).length = 3 := rfl
theorem len_desc {o : List Desc} : (o.flatMap descCells).length = o.length * 3 := len_flat dk o
theorem len_ev {l : List Evt} : (l.flatMap evCells).length = l.length * 3 := len_flat ek l
theorem wCells_len {m : Nat} {s : List UInt8} {o : List Desc} {A : Option Addr} {n c : Nat} : (wCells m s o A n c).length = o.length * 3 + 3 := by
 simp only [wCells, List.length_append, len_desc, List.length_cons, List.length_nil]; omega
theorem desc_at {m : Nat} {s : List UInt8} {o : List Desc} {A : Option Addr} {n c j : Nat} (h : j < o.length) (i : Nat) (hi : i < 3) : (wCells m s o A n c)[2 + j * 3 + i]? = (descCells (o.getD j default))[i]? := by
 unfold wCells
 rw [List.append_assoc, List.getElem?_append_right (by simp; omega)]
 have e : 2 + j * 3 + i - [T.v (.map (some m)), sv s].length = j * 3 + i := by simp; omega
 rw [e, List.getElem?_append_left (by rw [len_desc]; omega)]
 exact flat_at dk h i hi
theorem kind_at {m : Nat} {s : List UInt8} {o : List Desc} {A : Option Addr} {n c j : Nat} (h : j < o.length) : (wCells m s o A n c)[2 + j * 3 + 0]? = some (.v (.int .i64 (o.getD j default).kind)) := desc_at h 0 (by decide)
theorem name_at {m : Nat} {s : List UInt8} {o : List Desc} {A : Option Addr} {n c j : Nat} (h : j < o.length) : (wCells m s o A n c)[2 + j * 3 + 1]? = some (sv (o.getD j default).name) := desc_at h 1 (by decide)
theorem place_at {m : Nat} {s : List UInt8} {o : List Desc} {A : Option Addr} {n c j : Nat} (h : j < o.length) : (wCells m s o A n c)[2 + j * 3 + 2]? = some (.v (.int .i64 ((o.getD j default).place : Int))) := desc_at h 2 (by decide)
theorem trace_at {m : Nat} {s : List UInt8} {o : List Desc} {A : Option Addr} {n c : Nat} (h : o.length = 19) : (wCells m s o A n c)[59]? = some (.v (.slice A n c)) := by
 have hl : ([T.v (.map (some m)), sv s] ++ o.flatMap descCells).length = 59 := by rw [List.length_append, len_desc, h]; rfl
 unfold wCells
 rw [List.getElem?_append_right (by omega), hl]
 rfl
theorem set_desc {m : Nat} {s : List UInt8} {o : List Desc} {A : Option Addr} {n c j : Nat} (h : j < o.length) (i q : Nat) (new : List T) (d' : Desc) (hin : i + q ≤ 3) (he : descCells d' = (descCells (o.getD j default)).take i ++ new ++ (descCells (o.getD j default)).drop (i + q)) :
    (wCells m s o A n c).take (2 + j * 3 + i) ++ new ++ (wCells m s o A n c).drop (2 + j * 3 + i + q) = wCells m s (o.set j d') A n c := by
 have hf := flat_set dk h i q new d' hin he
 have hl : j * 3 + i + q ≤ (o.flatMap descCells).length := by rw [len_desc]; omega
 unfold wCells
 rw [← hf]
 rw [show 2 + j * 3 + i = 2 + (j * 3 + i) by omega, show 2 + (j * 3 + i) + q = 2 + (j * 3 + i + q) by omega]
 have e1 : ∀ (B C : List T) (p : Nat), p ≤ B.length → (([T.v (.map (some m)), sv s] ++ B ++ C).take (2 + p)) = [T.v (.map (some m)), sv s] ++ B.take p := fun B C p hp => by
  rw [List.append_assoc, Nat.add_comm 2 p]
  simp only [List.cons_append, List.nil_append, List.take_succ_cons]
  rw [List.take_append_of_le_length hp]
 have e2 : ∀ (B C : List T) (p : Nat), p ≤ B.length → (([T.v (.map (some m)), sv s] ++ B ++ C).drop (2 + p)) = B.drop p ++ C := fun B C p hp => by
  rw [List.append_assoc, Nat.add_comm 2 p]
  simp only [List.cons_append, List.nil_append, List.drop_succ_cons]
  rw [List.drop_append_of_le_length hp]
 rw [e1 _ _ _ (by omega), e2 _ _ _ hl]
 simp only [List.append_assoc]
theorem set_trace {m : Nat} {s : List UInt8} {o : List Desc} {A A' : Option Addr} {n c n' c' : Nat} (h : o.length = 19) : (wCells m s o A n c).take 59 ++ [.v (.slice A' n' c')] ++ (wCells m s o A n c).drop 60 = wCells m s o A' n' c' := by
 have hl : ([T.v (.map (some m)), sv s] ++ o.flatMap descCells).length = 59 := by rw [List.length_append, len_desc, h]; rfl
 unfold wCells
 rw [List.take_left' hl, List.drop_of_length_le (by rw [List.length_append, hl]; simp), List.append_nil]
theorem ev_at {l : List Evt} {j : Nat} (h : j < l.length) (i : Nat) (hi : i < 3) : (l.flatMap evCells)[j * 3 + i]? = (evCells (l.getD j default))[i]? := flat_at ek h i hi
theorem evk_at {l : List Evt} {j : Nat} (h : j < l.length) : (l.flatMap evCells)[j * 3 + 0]? = some (.v (.int .i64 (l.getD j default).kind)) := ev_at h 0 (by decide)
theorem evn_at {l : List Evt} {j : Nat} (h : j < l.length) : (l.flatMap evCells)[j * 3 + 1]? = some (sv (l.getD j default).name) := ev_at h 1 (by decide)
theorem evt_at {l : List Evt} {j : Nat} (h : j < l.length) : (l.flatMap evCells)[j * 3 + 2]? = some (sv (l.getD j default).text) := ev_at h 2 (by decide)
theorem set_ev {l : List Evt} {j : Nat} (h : j < l.length) (t : List UInt8) : (l.flatMap evCells).set (j * 3 + 2) (sv t) = (l.set j { l.getD j default with text := t }).flatMap evCells := by
 have e := flat_set ek h 2 1 [sv t] { l.getD j default with text := t } (by decide) rfl
 rw [← e, List.set_eq_take_append_cons_drop, if_pos (by rw [len_ev]; omega), List.append_assoc]
 rfl
theorem clone_cells (s : List UInt8) : List.map u8 s ++ List.drop s.length (List.replicate s.length (List.map T.v [Value.int .u8 0])).flatten = List.map u8 s := by
 rw [List.drop_of_length_le (by simp), List.append_nil]
theorem files_good (l : List FileR) : ∀ e ∈ l.map fileKey, goodK .string e.1 = true := fun e he => by
 obtain ⟨f, _, rfl⟩ := List.mem_map.1 he
 rfl

theorem indexByte54 (s : List UInt8) (c : UInt8) :
    ACalls Tryz.prog 75 [sv s, .v (.int .u8 c.toNat)] [] fun t S => t = (.v (.int .i64 (Lib.indexByte s c))) := by
 refine ai Tryz.func75 Tryz.ntmps75 fun X w0 => ?_
 refine rs (y1 ?_)
 refine nl (rs (y2 ?_))
 refine Y1 (Yv.indexByte Tryz.func97 (by kernel_rfl) (by kernel_rfl) (by kernel_rfl) (by kernel_rfl) rfl eV eV eV) ?_
 refine y1 (nl ?_)
 refine rt ?_
 rfl

theorem indexByte32 (s : List UInt8) (c : UInt8) :
    ACalls Tryz.prog 50 [sv s, .v (.int .u8 c.toNat)] [] fun t S => t = (.v (.int .i64 (Lib.indexByte s c))) := by
 refine ai Tryz.func50 Tryz.ntmps50 fun X w0 => ?_
 refine rs (y1 ?_)
 refine nl (rs (y2 ?_))
 refine kp (indexByte54 s c) ?_
 refine y1 (nl ?_)
 refine rt ?_
 rfl

theorem clone53 (s : List UInt8) (h : s.length ≤ 140737488355000) :
    ACalls Tryz.prog 49 [sv s] [] fun t S => t = sv s := by
 refine ai Tryz.func49 Tryz.ntmps49 fun X w0 => ?_
 refine rs (y1 ?_)
 refine nl (sq (rs (y3 (nl ?_))))
 refine cq (fun _ => ?_) fun h0f => ?_
 ·have hne : s = [] := List.eq_nil_of_length_eq_zero (by omega)
  refine rs (y1 (nl ?_))
  refine rt ?_
  rw [hne]; rfl
 have hne : s ≠ [] := fun e => h0f (by rw [e]; rfl)
 have hlen : 0 < s.length := List.length_pos_iff.2 hne
 refine sp (rs (y2 ?_))
 refine AWL.makeRow (n := s.length) (c := s.length) rfl rfl (B rfl) rfl el_23 (E rfl rfl) (E rfl rfl) (by omega) (by omega) (by unfold maxLen; omega) (fun A9 => ?_)
 refine y1 ?_
 refine nl (rs (y2 ?_))
 refine AWL.copyRow (i := 0) rfl rfl (B rfl) rfl el_23 rfl (E rfl rfl) (SrcT.strL st_9 (E rfl rfl)) (by omega) (by omega) (nl ?_)
 rw [clone_cells s]
 refine rs (y4 ?_)
 refine AWL.unsafeStr (i := 0) rfl rfl (B rfl) rfl pt_154 rfl (E rfl rfl) (E rfl rfl) hne (by omega) ?_
 refine y1 (nl ?_)
 refine rt ?_
 rfl

theorem clone26 (s : List UInt8) (h : s.length ≤ 140737488355000) :
    ACalls Tryz.prog 24 [sv s] [] fun t S => t = sv s := by
 refine ai Tryz.func24 Tryz.ntmps24 fun X w0 => ?_
 refine rs (y1 ?_)
 refine nl (rs (y1 ?_))
 refine kp (clone53 s h) ?_
 refine y1 (nl ?_)
 refine rt ?_
 rfl

theorem fits27 (s : List UInt8) :
    ACalls Tryz.prog 25 [sv s] [] fun t S => t = .v (.bool (!decide (s = []) && decide ((s.length : Int) ≤ 255) && decide (Lib.indexByte s 0 < 0))) := by
 refine ai Tryz.func25 Tryz.ntmps25 fun X w0 => ?_
 refine rs (y1 ?_)
 refine nl (rs (y1 ?_))
 refine Y1 (Yv.neqL rfl eV eV) ?_
 refine y7 ?_
 refine AWL.callPgT rfl rfl rfl rfl (B rfl) rfl ce_50 (E rfl rfl) (evsC (Eg rfl rfl id) (evsC (E rfl rfl) evs0)) (fun hg => indexByte32 s 0) (fun t S h => h) ?_
 refine y3 (nl ?_)
 refine rt ?_
 rfl

def lastE (l : List Evt) : Evt := l.getD (l.length - 1) default
def sayF (k : Int) (name text : List UInt8) (l : List Evt) : List Evt :=
 if text = [] then l else if 0 < l.length ∧ (lastE l).kind = k ∧ (lastE l).name = name then l.set (l.length - 1) { lastE l with text := (lastE l).text ++ text } else l ++ [⟨k, name, text⟩]
structure WB (n : Nat) (ws : WS) : Prop where
 opn : ws.opn.length = 19
 tr : ws.trace.length ≤ n
 txt : ∀ e ∈ ws.trace, e.text.length ≤ n
 fl : ∀ f ∈ ws.files, f.bytes.length ≤ n
 pl : ∀ d ∈ ws.opn, d.place ≤ n
 sin : ws.stdin.length ≤ n
theorem last_mem {l : List Evt} (h : 0 < l.length) : lastE l ∈ l := by
 unfold lastE
 rw [getD_eq' (by omega)]
 exact List.getElem_mem _
theorem sayF_nil {k : Int} {name : List UInt8} {l : List Evt} : sayF k name [] l = l := by simp [sayF]
theorem sayF_more {k : Int} {name text : List UInt8} {l : List Evt} (h0 : text ≠ []) (h : 0 < l.length ∧ (lastE l).kind = k ∧ (lastE l).name = name) : sayF k name text l = l.set (l.length - 1) { lastE l with text := (lastE l).text ++ text } := by
 unfold sayF; rw [if_neg h0, if_pos h]
theorem sayF_new {k : Int} {name text : List UInt8} {l : List Evt} (h0 : text ≠ []) (h : ¬ (0 < l.length ∧ (lastE l).kind = k ∧ (lastE l).name = name)) : sayF k name text l = l ++ [⟨k, name, text⟩] := by
 unfold sayF; rw [if_neg h0, if_neg h]
theorem wst_more {b m : Nat} {ws : WS} {k : Int} {name text : List UInt8} (h0 : text ≠ []) (h : 0 < ws.trace.length ∧ (lastE ws.trace).kind = k ∧ (lastE ws.trace).name = name) :
    WSt b m { ws with trace := sayF k name text ws.trace } = .box b 74 (wCells m ws.stdin ws.opn ws.tA ws.trace.length ws.tc) :: .map m (ws.files.map fileKey) :: .row ws.tA ws.trace.length ws.tc 149 3 ((ws.trace.flatMap evCells).set ((ws.trace.length - 1) * 3 + 2) (sv ((lastE ws.trace).text ++ text))) :: ws.files.map fileRow := by
 rw [sayF_more h0 h]
 simp only [WSt, List.length_set]
 rw [set_ev (by omega)]
 rfl
theorem wst_new {b m : Nat} {ws : WS} {k : Int} {name text : List UInt8} {A : Option Addr} {c : Nat} (ho : ws.opn.length = 19) (h0 : text ≠ []) (h : ¬ (0 < ws.trace.length ∧ (lastE ws.trace).kind = k ∧ (lastE ws.trace).name = name)) :
    WSt b m { ws with trace := sayF k name text ws.trace, tA := A, tc := c } = .box b 74 ((wCells m ws.stdin ws.opn ws.tA ws.trace.length ws.tc).take 59 ++ [.v (.slice A (ws.trace.length + 1) c)] ++ (wCells m ws.stdin ws.opn ws.tA ws.trace.length ws.tc).drop 60) :: .map m (ws.files.map fileKey) ::
     .row A (ws.trace.length + 1) c 149 3 (ws.trace.flatMap evCells ++ [.v (.int .i64 k), sv name, sv text]) :: ws.files.map fileRow := by
 rw [sayF_new h0 h]
 simp only [WSt, List.length_append, List.length_cons, List.length_nil, List.flatMap_append, List.flatMap_cons, List.flatMap_nil, List.append_nil, Nat.zero_add]
 rw [set_trace ho]
 rfl

theorem at29 (b j : Nat) (hj : j < 19) :
    ACalls Tryz.prog 105 [wp b, .v (.int .i64 (j : Int))] [] fun t S => t = .v (.pointer (some ⟨b, 2 + j * 3, none⟩)) := by
 refine ai Tryz.func105 Tryz.ntmps105 fun X w0 => ?_
 refine rs (y1 ?_)
 refine nl (sq (rs (y10 (nl ?_))))
 refine cq (fun _ => ?_) fun _ => ?_
 ·omega
 refine sp (rs (y4 ?_))
 refine Y1 (Yv.indexArr rfl ar_71 eV eV (fun hg => ⟨rfl, by omega⟩)) ?_
 refine y1 (nl ?_)
 refine rt ?_
 rfl

theorem say30 (b m : Nat) (ws : WS) (k : Int) (name text : List UInt8) (n : Nat) (hw : WB n ws) (hn : n ≤ 1099511627776) (ht : text.length ≤ 1099511627776) :
    ACalls Tryz.prog 112 [wp b, .v (.int .i64 k), sv name, sv text] (WSt b m ws) (fun t S => t = .tup [] ∧ ∃ A c, S = WSt b m { ws with trace := sayF k name text ws.trace, tA := A, tc := c }) := by
 obtain ⟨ho, htr, htx, hfl, hpl, hsi⟩ := hw
 refine ai Tryz.func112 Tryz.ntmps112 fun X w0 => ?_
 refine sq (rs (y1 ?_))
 refine Y1 (Yv.eqlL rfl eV eV) (nl ?_)
 refine cq (fun h0t => ?_) fun h0f => ?_
 ·refine AW.ret (retI .nil ?_)
  exact ⟨rfl, ws.tA, ws.tc, by rw [h0t, sayF_nil]⟩
 refine sp (sq (rs (y3 ?_)))
 refine Y1 (Yv.loadBox rfl ag_72 (i := 0) rfl eV (trace_at ho)) ?_
 refine y2 ?_
 refine nl (rs (y6 ?_))
 refine gT (Yv.loadBox rfl ag_72 (i := 0) rfl (Eg rfl rfl id) (trace_at ho)) ?_
 refine y1 ?_
 refine gT (Yv.subN_i64 rfl (Eg rfl rfl id) (E rfl rfl) (fun hg => by first | omega | (simp only [Bool.and_eq_true, Bool.or_eq_false_iff, Bool.not_eq_true', Bool.not_eq_false', decide_eq_true_eq, decide_eq_false_iff_not] at hg; omega))) ?_
 refine gT (ix (j := ws.trace.length - 1) (hj := fun hg => o2)) ?_
 refine y1 ?_
 refine gT (lw (hr := fun hg => evk_at og)) ?_
 refine y7 ?_
 refine gT (Yv.loadBox rfl ag_72 (i := 0) rfl (Eg rfl rfl id) (trace_at ho)) ?_
 refine y1 ?_
 refine gT (Yv.subN_i64 rfl (Eg rfl rfl id) (E rfl rfl) (fun hg => by first | omega | (simp only [Bool.and_eq_true, Bool.or_eq_false_iff, Bool.not_eq_true', Bool.not_eq_false', decide_eq_true_eq, decide_eq_false_iff_not] at hg; omega))) ?_
 refine gT (ix (j := ws.trace.length - 1) (hj := fun hg => o2)) ?_
 refine y1 ?_
 refine gT (lw (hr := fun hg => evn_at og)) ?_
 refine y1 ?_
 refine gT (Yv.eqlL rfl (Eg rfl rfl id) (Eg rfl rfl id)) ?_
 refine y1 (nl ?_)
 refine cq (fun h1t => ?_) fun h1f => ?_
 ·replace h1t := sm h1t
  obtain ⟨⟨g1, g2⟩, g3⟩ := h1t
  have hlast := htx _ (last_mem (l := ws.trace) (by omega))
  unfold lastE at hlast
  refine rs (y3 ?_)
  refine Y1 (Yv.loadBox rfl ag_72 (i := 0) rfl eV (trace_at ho)) ?_
  refine y2 ?_
  refine Y1 (ix (j := ws.trace.length - 1) (hj := fun hg => o2)) ?_
  refine y1 ?_
  refine Y1 (lw (hr := fun hg => evt_at og)) ?_
  refine y1 ?_
  refine Y1 (Yv.addL rfl eV eV (fun hg => by first | omega | (simp only [List.length_append, List.length_cons, List.length_nil]; omega))) ?_
  refine Y1 (ix (j := ws.trace.length - 1) (hj := fun hg => o2)) ?_
  refine y2 (nl ?_)
  refine AW.ret (retI .nil ?_)
  exact ⟨rfl, ws.tA, ws.tc, (wst_more h0f ⟨by omega, g2, g3⟩).symm⟩
 have hno : ¬ (0 < ws.trace.length ∧ (lastE ws.trace).kind = k ∧ (lastE ws.trace).name = name) := fun q => by
  obtain ⟨q1, q2, q3⟩ := q
  unfold lastE at q2 q3
  rw [decide_eq_true (show (0 : Int) < ws.trace.length by omega), decide_eq_true q2, decide_eq_true q3] at h1f
  cases h1f
 refine sp ?_
 refine AW.regionP rfl ?_
 refine tp 0 ?_
 refine tp 1 ?_
 refine tp 2 ?_
 refine tp 3 ?_
 refine tp 5 ?_
 refine tp 6 ?_
 refine tp 7 ?_
 refine wp2 4 8 ?_ ?_
 ·refine Y1 (Yv.loadBox rfl ag_72 (i := 0) rfl eV (trace_at ho)) (nl ?_)
  refine op 8 ?_
  refine kp (clone26 text (by omega)) ?_
  refine nl ?_
  refine op 9 ?_
  refine y1 (nl ?_)
  refine op 10 ?_
  refine AWL.buildSliceE rfl rfl (B rfl) rfl el_72 (B rfl) rfl (evsC (E rfl rfl) evs0) nB rfl rfl (nl ?_)
  refine op 11 ?_
  refine AWL.appendRow (i := 2) rfl rfl (B rfl) rfl el_72 (B rfl) rfl (E rfl rfl) (SrcT.sl so_72 (B rfl) (E rfl rfl) (m := 1) rfl) (by unfold maxLen; omega) (by omega) (fun A68 c68 => ?_)
  refine nl ?_
  refine op 12 ?_
  refine y1 (nl ?_)
  refine op 13 ?_
  refine y1 (nl ?_)
  refine op 14 ?_
  refine AWL.storeBox (i := 0) rfl rfl rfl ag_72 rfl (E rfl rfl) (E rfl rfl) rfl rfl (by rw [wCells_len, ho]; omega) (nl ?_)
  refine dn ?_
  refine retN .nil ?_
  exact ⟨rfl, A68, c68, (wst_new ho h0f hno).symm⟩
 refine kp (clone26 text (by omega)) ?_
 refine nl ?_
 refine wp2 4 9 ?_ ?_
 ·refine Y1 (Yv.loadBox rfl ag_72 (i := 0) rfl eV (trace_at ho)) (nl ?_)
  refine op 9 ?_
  refine y1 (nl ?_)
  refine op 10 ?_
  refine AWL.buildSliceE rfl rfl (B rfl) rfl el_72 (B rfl) rfl (evsC (E rfl rfl) evs0) nB rfl rfl (nl ?_)
  refine op 11 ?_
  refine AWL.appendRow (i := 2) rfl rfl (B rfl) rfl el_72 (B rfl) rfl (E rfl rfl) (SrcT.sl so_72 (B rfl) (E rfl rfl) (m := 1) rfl) (by unfold maxLen; omega) (by omega) (fun A68 c68 => ?_)
  refine nl ?_
  refine op 12 ?_
  refine y1 (nl ?_)
  refine op 13 ?_
  refine y1 (nl ?_)
  refine op 14 ?_
  refine AWL.storeBox (i := 0) rfl rfl rfl ag_72 rfl (E rfl rfl) (E rfl rfl) rfl rfl (by rw [wCells_len, ho]; omega) (nl ?_)
  refine dn ?_
  refine retN .nil ?_
  exact ⟨rfl, A68, c68, (wst_new ho h0f hno).symm⟩
 refine y1 (nl ?_)
 refine wp2 4 10 ?_ ?_
 ·refine Y1 (Yv.loadBox rfl ag_72 (i := 0) rfl eV (trace_at ho)) (nl ?_)
  refine op 10 ?_
  refine AWL.buildSliceE rfl rfl (B rfl) rfl el_72 (B rfl) rfl (evsC (E rfl rfl) evs0) nB rfl rfl (nl ?_)
  refine op 11 ?_
  refine AWL.appendRow (i := 2) rfl rfl (B rfl) rfl el_72 (B rfl) rfl (E rfl rfl) (SrcT.sl so_72 (B rfl) (E rfl rfl) (m := 1) rfl) (by unfold maxLen; omega) (by omega) (fun A68 c68 => ?_)
  refine nl ?_
  refine op 12 ?_
  refine y1 (nl ?_)
  refine op 13 ?_
  refine y1 (nl ?_)
  refine op 14 ?_
  refine AWL.storeBox (i := 0) rfl rfl rfl ag_72 rfl (E rfl rfl) (E rfl rfl) rfl rfl (by rw [wCells_len, ho]; omega) (nl ?_)
  refine dn ?_
  refine retN .nil ?_
  exact ⟨rfl, A68, c68, (wst_new ho h0f hno).symm⟩
 refine AWL.buildSliceE rfl rfl (B rfl) rfl el_72 (B rfl) rfl (evsC (E rfl rfl) evs0) nB rfl rfl (nl ?_)
 refine op 4 ?_
 refine Y1 (Yv.loadBox rfl ag_72 (i := 0) rfl eV (trace_at ho)) (nl ?_)
 refine op 11 ?_
 refine AWL.appendRow (i := 2) rfl rfl (B rfl) rfl el_72 (B rfl) rfl (E rfl rfl) (SrcT.sl so_72 (B rfl) (E rfl rfl) (m := 1) rfl) (by unfold maxLen; omega) (by omega) (fun A68 c68 => ?_)
 refine nl ?_
 refine op 12 ?_
 refine y1 (nl ?_)
 refine op 13 ?_
 refine y1 (nl ?_)
 refine op 14 ?_
 refine AWL.storeBox (i := 0) rfl rfl rfl ag_72 rfl (E rfl rfl) (E rfl rfl) rfl rfl (by rw [wCells_len, ho]; omega) (nl ?_)
 refine dn ?_
 refine retN .nil ?_
 exact ⟨rfl, A68, c68, (wst_new ho h0f hno).symm⟩

def padTo (l : List UInt8) (n : Nat) : List UInt8 := l ++ List.replicate (n - l.length) 0
def writeAt (l : List UInt8) (p : Nat) (s : List UInt8) : List UInt8 := (padTo l (p + s.length)).take p ++ s ++ (padTo l (p + s.length)).drop (p + s.length)
theorem padTo_len (l : List UInt8) (n : Nat) : (padTo l n).length = max l.length n := by simp [padTo]; omega
theorem writeAt_len (l : List UInt8) (p : Nat) (s : List UInt8) : (writeAt l p s).length = max l.length (p + s.length) := by
 have := padTo_len l (p + s.length)
 simp only [writeAt, List.length_append, List.length_take, List.length_drop]
 omega
theorem writeAt_cells (l : List UInt8) (p : Nat) (s : List UInt8) : ((padTo l (p + s.length)).map u8).take p ++ s.map u8 ++ ((padTo l (p + s.length)).map u8).drop (p + s.length) = (writeAt l p s).map u8 := by
 simp only [writeAt, List.map_append, List.map_take, List.map_drop]
theorem pad_cells (l : List UInt8) (k : Nat) : l.map u8 ++ List.replicate k (T.v (.int .u8 0)) = (l ++ List.replicate k 0).map u8 := by
 simp [u8]
def Uniq (l : List FileR) : Prop := (l.map (·.name)).Nodup
theorem get_file {l : List FileR} : ∀ {q : Nat}, Uniq l → q < l.length → getK (.s (l.getD q default).name) (l.map fileKey) = some (fileKey (l.getD q default)).2 := by
 induction l with
 | nil => intro q _ h; simp at h
 | cons f r ih =>
  intro q hu hq
  rw [Uniq, List.map_cons, List.nodup_cons] at hu
  cases q with
  | zero => simp [getK, fileKey]
  | succ q =>
   have hq' : q < r.length := by simpa using hq
   rw [List.getD_cons_succ, List.map_cons, getK, if_neg, ih hu.2 hq']
   intro e
   simp only [fileKey, Key.s.injEq] at e
   refine hu.1 (List.mem_map.2 ⟨r.getD q default, ?_, e.symm⟩)
   rw [getD_eq' hq']
   exact List.getElem_mem hq'
theorem put_file {l : List FileR} : ∀ {q : Nat} (f : FileR), Uniq l → q < l.length → f.name = (l.getD q default).name → putK (.s f.name) (.v (.slice f.A f.bytes.length f.c)) (l.map fileKey) = (l.set q f).map fileKey := by
 induction l with
 | nil => intro q f _ h; simp at h
 | cons f0 r ih =>
  intro q f hu hq he
  rw [Uniq, List.map_cons, List.nodup_cons] at hu
  cases q with
  | zero =>
   simp only [List.getD_cons_zero] at he
   simp [putK, fileKey, he]
  | succ q =>
   have hq' : q < r.length := by simpa using hq
   rw [List.getD_cons_succ] at he
   rw [List.map_cons, putK, if_neg, List.set_cons_succ, List.map_cons, ih f hu.2 hq' he]
   intro e
   simp only [fileKey, Key.s.injEq] at e
   refine hu.1 (List.mem_map.2 ⟨r.getD q default, ?_, ?_⟩)
   ·rw [getD_eq' hq']; exact List.getElem_mem hq'
   ·rw [e, he]
theorem put_new {l : List FileR} (f : FileR) (h : ∀ g ∈ l, g.name ≠ f.name) : putK (.s f.name) (.v (.slice f.A f.bytes.length f.c)) (l.map fileKey) = (l ++ [f]).map fileKey := by
 induction l with
 | nil => rfl
 | cons g r ih =>
  rw [List.map_cons, putK, if_neg, ih (fun x hx => h x (List.mem_cons_of_mem _ hx))]
  ·rfl
  ·intro e
   simp only [fileKey, Key.s.injEq] at e
   exact h g (List.mem_cons_self ..) e
theorem file_row {b m : Nat} {ws : WS} {q : Nat} (h : q < ws.files.length) : (WSt b m ws)[q + 3]? = some (fileRow (ws.files.getD q default)) := by
 have : (WSt b m ws)[q + 3]? = (ws.files.map fileRow)[q]? := rfl
 rw [this, List.getElem?_map, getD_eq' h, List.getElem?_eq_getElem h]
 rfl
theorem row_set {b m : Nat} {ws : WS} {q : Nat} (f : FileR) : (WSt b m ws).set (q + 3) (fileRow f) = .box b 74 (wCells m ws.stdin ws.opn ws.tA ws.trace.length ws.tc) :: .map m (ws.files.map fileKey) :: .row ws.tA ws.trace.length ws.tc 149 3 (ws.trace.flatMap evCells) :: (ws.files.set q f).map fileRow := by
 rw [List.map_set]; rfl
theorem file_row_set {b m : Nat} {ws : WS} {q : Nat} (h : q < ws.files.length) (e : Ent) : ((WSt b m ws).set (q + 3) e)[q + 3]? = some e := by
 rw [List.getElem?_set_self]
 show q + 3 < (ws.files.map fileRow).length + 1 + 1 + 1
 rw [List.length_map]; omega
theorem getD_set {α : Type} {l : List α} {j : Nat} (h : j < l.length) (a d : α) : (l.set j a).getD j d = a := by
 simp [List.getD, h]
theorem wst_same {b m : Nat} {ws : WS} {q : Nat} (h : q < ws.files.length) : (WSt b m ws).set (q + 3) (fileRow (ws.files.getD q default)) = WSt b m ws := by
 rw [row_set, getD_eq' h, List.set_getElem_self]; rfl
theorem wst_wrote {b m : Nat} {ws : WS} {q j : Nat} (f1 f2 : FileR) (d2 : Desc) : ((((WSt b m ws).set (q + 3) (fileRow f1)).set (q + 3) (fileRow f2)).set 1 (.map m ((ws.files.set q f2).map fileKey))).set 0 (.box b 74 (wCells m ws.stdin (ws.opn.set j d2) ws.tA ws.trace.length ws.tc)) = WSt b m { ws with files := ws.files.set q f2, opn := ws.opn.set j d2 } := by
 rw [List.set_set, row_set]; rfl
theorem padTo_id {l : List UInt8} {n : Nat} (h : n ≤ l.length) : padTo l n = l := by
 unfold padTo
 rw [show n - l.length = 0 by omega]; simp
theorem rot3 {a b c : Ent} {l : St} : (c :: a :: b :: l).Perm (a :: b :: c :: l) :=
 (List.Perm.swap a c (b :: l)).trans ((List.Perm.swap b c l).cons a)
theorem rot3' {a b c : Ent} {l : St} : (a :: b :: c :: l).Perm (c :: a :: b :: l) := rot3.symm
def wrF (j q : Nat) (s : List UInt8) (A : Option Addr) (c : Nat) (tA : Option Addr) (tc : Nat) (ws : WS) : WS :=
 if s = [] then ws else
  { ws with files := ws.files.set q { ws.files.getD q default with bytes := writeAt (ws.files.getD q default).bytes (ws.opn.getD j default).place s, A := A, c := c }, opn := ws.opn.set j { ws.opn.getD j default with place := (ws.opn.getD j default).place + s.length },
            trace := sayF 3 (ws.opn.getD j default).name s ws.trace, tA := tA, tc := tc }
theorem wb_wrote {j q n : Nat} {ws : WS} {s : List UInt8} (hj : j < 19) (hq : q < ws.files.length) (hw : WB n ws) (A : Option Addr) (c : Nat) :
    WB (n + s.length) { ws with files := ws.files.set q { ws.files.getD q default with bytes := writeAt (ws.files.getD q default).bytes (ws.opn.getD j default).place s, A := A, c := c }, opn := ws.opn.set j { ws.opn.getD j default with place := (ws.opn.getD j default).place + s.length } } := by
 obtain ⟨ho, htr, htx, hfl, hpl, hsi⟩ := hw
 have h1 : (ws.opn.getD j default).place ≤ n := hpl _ (by rw [getD_eq' (show j < ws.opn.length by omega)]; exact List.getElem_mem _)
 have h2 : (ws.files.getD q default).bytes.length ≤ n := hfl _ (by rw [getD_eq' hq]; exact List.getElem_mem _)
 refine ⟨by simpa using ho, by simp only; omega, fun e he => by have := htx e he; omega, fun f hf => ?_, fun d hd => ?_, by simp only; omega⟩
 ·rcases List.mem_or_eq_of_mem_set hf with hf | rfl
  ·have := hfl f hf; omega
  simp only [writeAt_len]; omega
 rcases List.mem_or_eq_of_mem_set hd with hd | rfl
 ·have := hpl d hd; omega
 simp only; omega
def closeF (j : Nat) (o : List Desc) : List Desc := if (o.getD j default).kind = 0 then o else o.set j ⟨0, [], 0⟩
theorem getD_mem' {α : Type} [Inhabited α] {l : List α} {j : Nat} (h : j < l.length) : l.getD j default ∈ l := by
 rw [getD_eq' h]; exact List.getElem_mem h

theorem cloneEv31 (A : Option Addr) (n c : Nat) (cs : List T) (hl : cs.length = n * 3) (hn : n ≤ 1099511627776) :
    ACalls Tryz.prog 73 [.v (.slice A n c)] [.row A n c 149 3 cs] (fun t S => t = .sl 3 cs ∧ S = [.row A n c 149 3 cs]) := by
 refine ai Tryz.func73 Tryz.ntmps73 fun X w0 => ?_
 refine rs (y1 ?_)
 refine nl (sq ?_)
 refine AW.rowFact 0 rfl (fun hnone => ?_)
 refine rs (y1 ?_)
 refine Y1 (Yv.eqNilV rfl so_72 eV) (nl ?_)
 refine cq (fun h0t => ?_) fun _ => ?_
 ·refine rs (y1 (nl ?_))
  obtain ⟨rfl, rfl, rfl⟩ := hnone (Option.isNone_iff_eq_none.1 h0t)
  refine AW.retype (k := 2) rfl (nil_sl (k := 3) (by unfold maxLen; omega)) ?_
  refine rt ?_
  obtain rfl := Option.isNone_iff_eq_none.1 h0t
  exact ⟨rfl, rfl⟩
 refine sp (rs ?_)
 refine AWL.buildSliceRow rfl rfl (B rfl) rfl el_72 (B rfl) rfl evs0 nB rfl rfl (fun A5 => ?_)
 refine y1 ?_
 refine AWL.appendRow (i := 1) rfl rfl (B rfl) rfl el_72 (B rfl) rfl (E rfl rfl) (SrcT.row so_72 (i := 0) rfl (E rfl rfl)) (by unfold maxLen; omega) (by omega) (fun A7 c7 => ?_)
 refine y1 (nl ?_)
 refine AW.freeze 1 2 rfl (B rfl) rfl ?_
 refine rt ?_
 exact ⟨rfl, rfl⟩

theorem Trace14 (b m : Nat) (ws : WS) (n : Nat) (hw : WB n ws) (hn : n ≤ 1099511627776) :
    ACalls Tryz.prog 40 [wp b] (WSt b m ws) (fun t S => t = .sl 3 (ws.trace.flatMap evCells) ∧ S = WSt b m ws) := by
 obtain ⟨ho, htr, htx, hfl, hpl, hsi⟩ := hw
 refine ai Tryz.func40 Tryz.ntmps40 fun X w0 => ?_
 refine rs (y1 ?_)
 refine nl (sq (rs (y2 (nl ?_))))
 refine cq (fun h0t => ?_) fun _ => ?_
 ·cases h0t
 refine sp ?_
 refine AW.perm rot3 ?_
 refine rs (y3 ?_)
 refine Y1 (Yv.loadBox rfl ag_72 (i := 1) rfl eV (trace_at ho)) ?_
 refine kc (cloneEv31 ws.tA ws.trace.length ws.tc _ len_ev (by omega)) ?_
 rintro t9 S9 ⟨rfl, rfl⟩
 refine y1 (nl ?_)
 refine AW.perm rot3' ?_
 refine rt ?_
 exact ⟨rfl, rfl⟩

theorem SysClose18 (b m : Nat) (ws : WS) (j n : Nat) (hj : j < 19) (hw : WB n ws) :
    ACalls Tryz.prog 86 [wp b, .v (.int .i64 (j : Int))] (WSt b m ws) (fun t S => t = .v (.int .i64 (if (ws.opn.getD j default).kind = 0 then -9 else 0)) ∧ S = WSt b m { ws with opn := closeF j ws.opn }) := by
 obtain ⟨ho, htr, htx, hfl, hpl, hsi⟩ := hw
 refine ai Tryz.func86 Tryz.ntmps86 fun X w0 => ?_
 refine rs (y1 ?_)
 refine nl (rs (y2 ?_))
 refine kp (at29 b j hj) ?_
 refine y1 ?_
 refine nl (sq (rs (y3 ?_)))
 refine Y1 (Yv.loadBox rfl ag_3 (i := 0) rfl eV (kind_at (by omega))) ?_
 refine y1 (nl ?_)
 refine cq (fun h0t => ?_) fun h0f => ?_
 ·refine rs (y1 (nl ?_))
  refine rt ?_
  unfold closeF
  rw [if_pos h0t, if_pos h0t]
  exact ⟨rfl, rfl⟩
 refine sp (rs (y3 ?_))
 refine AWL.storeBox (i := 0) rfl rfl rfl ag_70 rfl (E rfl rfl) (E rfl rfl) rfl rfl (by rw [wCells_len, ho]; omega) ?_
 refine nl (rs (y1 (nl ?_)))
 refine rt ?_
 have e := set_desc (m := m) (s := ws.stdin) (A := ws.tA) (n := ws.trace.length) (c := ws.tc) (show j < ws.opn.length by omega) 0 3 (descCells ⟨0, [], 0⟩) ⟨0, [], 0⟩ (by decide) rfl
 unfold closeF
 rw [if_neg h0f, if_neg h0f]
 refine ⟨rfl, ?_⟩
 simp only [WSt]
 rw [← e]; rfl

theorem SysWrite13_2 (b m : Nat) (ws : WS) (j : Nat) (s : List UInt8) (n : Nat) (hj : j < 19) (hk : (ws.opn.getD j default).kind = 2) (hw : WB n ws) (hn : n ≤ 1099511627776) (hs : s.length ≤ 1099511627776) :
    ACalls Tryz.prog 103 [wp b, .v (.int .i64 (j : Int)), sv s] (WSt b m ws) (fun t S => t = .v (.int .i64 (s.length : Int)) ∧ ∃ A c, S = WSt b m { ws with trace := sayF 1 [] s ws.trace, tA := A, tc := c }) := by
 obtain ⟨ho, htr, htx, hfl, hpl, hsi⟩ := hw
 refine ai Tryz.func103 Tryz.ntmps103 fun X w0 => ?_
 refine rs (y1 ?_)
 refine nl (rs (y2 ?_))
 refine kp (at29 b j hj) ?_
 refine y1 ?_
 refine nl (sq (rs (y3 ?_)))
 refine Y1 (Yv.loadBox rfl ag_3 (i := 0) rfl eV (kind_at (by omega))) ?_
 refine nl (bk (rs (y2 (nl ?_))))
 refine cq (fun _ => ?_) fun _ => ?_
 ·refine rg (y2 ?_)
  refine ka (say30 b m ws 1 [] s n ⟨ho, htr, htx, hfl, hpl, hsi⟩ hn hs) ?_
  rintro t21 S21 ⟨rfl, A21, c21, rfl⟩
  refine nl (rs (y3 (nl ?_)))
  refine rt ?_
  exact ⟨rfl, _, _, rfl⟩
 omega

theorem SysWrite13_3 (b m : Nat) (ws : WS) (j : Nat) (s : List UInt8) (n : Nat) (hj : j < 19) (hk : (ws.opn.getD j default).kind = 3) (hw : WB n ws) (hn : n ≤ 1099511627776) (hs : s.length ≤ 1099511627776) :
    ACalls Tryz.prog 103 [wp b, .v (.int .i64 (j : Int)), sv s] (WSt b m ws) (fun t S => t = .v (.int .i64 (s.length : Int)) ∧ ∃ A c, S = WSt b m { ws with trace := sayF 2 [] s ws.trace, tA := A, tc := c }) := by
 obtain ⟨ho, htr, htx, hfl, hpl, hsi⟩ := hw
 refine ai Tryz.func103 Tryz.ntmps103 fun X w0 => ?_
 refine rs (y1 ?_)
 refine nl (rs (y2 ?_))
 refine kp (at29 b j hj) ?_
 refine y1 ?_
 refine nl (sq (rs (y3 ?_)))
 refine Y1 (Yv.loadBox rfl ag_3 (i := 0) rfl eV (kind_at (by omega))) ?_
 refine nl (bk (rs (y2 (nl ?_))))
 refine cq (fun _ => ?_) fun _ => ?_
 ·omega
 refine rs (y2 (nl ?_))
 refine cq (fun _ => ?_) fun _ => ?_
 ·refine rg (y2 ?_)
  refine ka (say30 b m ws 2 [] s n ⟨ho, htr, htx, hfl, hpl, hsi⟩ hn hs) ?_
  rintro t26 S26 ⟨rfl, A26, c26, rfl⟩
  refine nl (rs (y3 (nl ?_)))
  refine rt ?_
  exact ⟨rfl, _, _, rfl⟩
 omega


theorem SysWrite13_5 (b m : Nat) (ws : WS) (j q : Nat) (s : List UInt8) (n : Nat) (hj : j < 19) (hk : (ws.opn.getD j default).kind = 5) (hq : q < ws.files.length) (hu : Uniq ws.files) (hnm : (ws.opn.getD j default).name = (ws.files.getD q default).name) (hw : WB n ws) (hn : n ≤ 549755813888) (hs : s.length ≤ 549755813888) :
    ACalls Tryz.prog 103 [wp b, .v (.int .i64 (j : Int)), sv s] (WSt b m ws) (fun t S => t = .v (.int .i64 (s.length : Int)) ∧ ∃ A c tA tc, S = WSt b m (wrF j q s A c tA tc ws)) := by
 obtain ⟨ho, htr, htx, hfl, hpl, hsi⟩ := hw
 have hpj : (ws.opn.getD j default).place ≤ n := hpl _ (getD_mem' (by omega))
 have hfq : (ws.files.getD q default).bytes.length ≤ n := hfl _ (getD_mem' hq)
 refine ai Tryz.func103 Tryz.ntmps103 fun X w0 => ?_
 refine rs (y1 ?_)
 refine nl (rs (y2 ?_))
 refine kp (at29 b j hj) ?_
 refine y1 ?_
 refine nl (sq (rs (y3 ?_)))
 refine Y1 (Yv.loadBox rfl ag_3 (i := 0) rfl eV (kind_at (by omega))) ?_
 refine nl (bk (rs (y2 (nl ?_))))
 refine cq (fun _ => ?_) fun _ => ?_
 ·omega
 refine rs (y2 (nl ?_))
 refine cq (fun _ => ?_) fun _ => ?_
 ·omega
 refine rs (y2 (nl ?_))
 refine cq (fun _ => ?_) fun _ => ?_
 ·refine rs (y1 ?_)
  refine Y1 (Yv.neqL rfl eV eV) (nl ?_)
  refine cq (fun h3t => ?_) fun h3f => ?_
  ·replace h3t := sm h3t
   have hs0 : s ≠ [] := by simpa using h3t
   refine rq (q7 ?_)
   refine Q1 (Yv.loadBox rfl ag_9 (i := 0) rfl eV (name_at (by omega))) ?_
   refine Q1 (Yv.eqT (t' := .v (.slice (ws.files.getD q default).A (ws.files.getD q default).bytes.length (ws.files.getD q default).c)) (Yv.lookup1 (k := .s _) (i := 1) rfl mp_67 rfl eV eV rfl (files_good _)) (by rw [hnm, get_file hu hq]; rfl)) ?_
   refine q1 (nq ?_)
   refine AW.mid (α := Option Addr × Nat) (fun r => [(0, true, wp b), (2, true, sv s), (7, true, .v (.pointer (some ⟨b, 2 + j * 3, none⟩))), (8, true, .v (.slice r.1 (padTo (ws.files.getD q default).bytes ((ws.opn.getD j default).place + s.length)).length r.2))]) (fun r => (WSt b m ws).set (q + 3) (.row r.1 (padTo (ws.files.getD q default).bytes ((ws.opn.getD j default).place + s.length)).length r.2 5 1 (List.map u8 (padTo (ws.files.getD q default).bytes ((ws.opn.getD j default).place + s.length))))) (fun _ => True) ?_ ?_
   ·refine rs (y3 ?_)
    refine Y1 (Yv.loadBox rfl ag_3 (i := 0) rfl eV (place_at (by omega))) ?_
    refine y7 ?_
    refine nl (rs (y2 (nl ?_)))
    refine cq (fun _ => ?_) fun _ => ?_
    ·have egap : (((ws.opn.getD j default).place : Int) + (s.length : Int) - ((ws.files.getD q default).bytes.length : Int)) = (((ws.opn.getD j default).place + s.length - (ws.files.getD q default).bytes.length : Nat) : Int) := by omega
     rw [egap]
     refine rg (y2 ?_)
     refine AWL.appendZerosAny (m := (ws.opn.getD j default).place + s.length - (ws.files.getD q default).bytes.length) (i := q + 3) rfl rfl (B rfl) rfl el_23 kd_3 (by omega) (file_row hq) (E rfl rfl) (E rfl rfl) (by unfold maxLen; omega) (by omega) (fun A54 c54 => ?_)
     refine y1 (nl ?_)
     have el : (padTo (ws.files.getD q default).bytes ((ws.opn.getD j default).place + s.length)).length = (ws.files.getD q default).bytes.length + ((ws.opn.getD j default).place + s.length - (ws.files.getD q default).bytes.length) := by rw [padTo_len]; omega
     refine ⟨(A54, c54), trivial, ?_, ?_⟩
     ·exact (su (su (su (Sub.cons rfl (by rw [el]) Sub.nil))))
     rw [el]
     unfold padTo
     rw [← pad_cells] <;> rfl
    refine sp ?_
    have el : (padTo (ws.files.getD q default).bytes ((ws.opn.getD j default).place + s.length)) = (ws.files.getD q default).bytes := padTo_id (by omega)
    refine ⟨((ws.files.getD q default).A, (ws.files.getD q default).c), trivial, ?_, ?_⟩
    ·exact (su (su (su (Sub.cons rfl (by rw [el] <;> rfl) Sub.nil))))
    rw [el]; exact (wst_same hq).symm
   rintro ⟨A1, c1⟩ _
   have hgl : (padTo (ws.files.getD q default).bytes ((ws.opn.getD j default).place + s.length)).length = max (ws.files.getD q default).bytes.length ((ws.opn.getD j default).place + s.length) := padTo_len _ _
   have hlen0 : 0 < s.length := List.length_pos_iff.2 hs0
   refine rs (y4 ?_)
   refine Y1 (Yv.loadBox rfl ag_3 (i := 0) rfl eV (place_at (by omega))) ?_
   refine Y1 (Yv.sliceRowFrom (i := q + 3) (lo := (ws.opn.getD j default).place) rfl ss_23 (file_row_set hq _) eV (Bound.some_ eV (fun _ => rfl)) (fun hg => by omega)) ?_
   refine y1 ?_
   refine AWL.copyRowAt (i := q + 3) (lo := (ws.opn.getD j default).place) (m := s.length) rfl rfl (B rfl) rfl el_23 (file_row_set hq _) (E rfl rfl) (SrcT.strL st_9 (E rfl rfl)) (by omega) hlen0 (nl ?_)
   refine AW.rseqP rfl ?_
   refine tp 0 ?_
   refine tp 1 ?_
   refine tp 2 ?_
   refine tp 4 ?_
   refine tp 5 ?_
   refine tp 6 ?_
   refine tp 8 ?_
   refine wp2 3 7 ?_ ?_
   ·refine y1 (nl ?_)
    refine op 7 ?_
    refine Y1 (Yv.loadBox rfl ag_9 (i := 0) rfl eV (name_at (by omega))) (nl ?_)
    refine op 9 ?_
    refine AWL.mapUpd (k := .s _) (i := 1) (r := .v (.slice A1 (padTo (ws.files.getD q default).bytes ((ws.opn.getD j default).place + s.length)).length c1)) rfl rfl (.inl rfl) mp_67 rfl (E rfl rfl) (E rfl rfl) (E rfl rfl) rfl rfl (files_good _) (nl ?_)
    refine dn ?_
    refine rs (y3 ?_)
    refine Y1 (Yv.loadBox rfl ag_3 (i := 0) rfl eV (place_at (by omega))) ?_
    refine y5 ?_
    refine AWL.storeBox (i := 0) rfl rfl rfl ag_3 rfl (E rfl rfl) (E rfl rfl) rfl rfl (by rw [wCells_len, ho]; omega) (nl ?_)
    refine AW.eqS (S' := WSt b m { ws with files := ws.files.set q { (ws.files.getD q default) with bytes := writeAt (ws.files.getD q default).bytes (ws.opn.getD j default).place s, A := A1, c := c1 }, opn := ws.opn.set j { (ws.opn.getD j default) with place := (ws.opn.getD j default).place + s.length } }) ?_ ?_
    ·have e0 : { (ws.files.getD q default) with bytes := writeAt (ws.files.getD q default).bytes (ws.opn.getD j default).place s, A := A1, c := c1 }.bytes.length = (padTo (ws.files.getD q default).bytes ((ws.opn.getD j default).place + s.length)).length := by rw [hgl]; exact writeAt_len _ _ _
     have e1 := put_file { (ws.files.getD q default) with bytes := writeAt (ws.files.getD q default).bytes (ws.opn.getD j default).place s, A := A1, c := c1 } hu hq rfl
     have e2 := set_desc (m := m) (s := ws.stdin) (A := ws.tA) (n := ws.trace.length) (c := ws.tc) (show j < ws.opn.length by omega) 2 1 [.v (.int .i64 (((ws.opn.getD j default).place + s.length : Nat) : Int))] { (ws.opn.getD j default) with place := (ws.opn.getD j default).place + s.length } (by decide) rfl
     have e3 := writeAt_cells (ws.files.getD q default).bytes (ws.opn.getD j default).place s
     have e4 : fileRow { (ws.files.getD q default) with bytes := writeAt (ws.files.getD q default).bytes (ws.opn.getD j default).place s, A := A1, c := c1 } = .row A1 (padTo (ws.files.getD q default).bytes ((ws.opn.getD j default).place + s.length)).length c1 5 1 ((List.map u8 (padTo (ws.files.getD q default).bytes ((ws.opn.getD j default).place + s.length))).take (ws.opn.getD j default).place ++ List.map u8 s ++ (List.map u8 (padTo (ws.files.getD q default).bytes ((ws.opn.getD j default).place + s.length))).drop ((ws.opn.getD j default).place + s.length)) := by
      unfold fileRow; rw [e3]; simp only; rw [writeAt_len, hgl]
     simp only [e0] at e1
     rw [← wst_wrote { (ws.files.getD q default) with bytes := (padTo (ws.files.getD q default).bytes ((ws.opn.getD j default).place + s.length)), A := A1, c := c1 } { (ws.files.getD q default) with bytes := writeAt (ws.files.getD q default).bytes (ws.opn.getD j default).place s, A := A1, c := c1 } { (ws.opn.getD j default) with place := (ws.opn.getD j default).place + s.length }, ← e1, ← e2, e4, hnm]
     rfl
    have hw2 : WB (n + s.length) { ws with files := ws.files.set q { (ws.files.getD q default) with bytes := writeAt (ws.files.getD q default).bytes (ws.opn.getD j default).place s, A := A1, c := c1 }, opn := ws.opn.set j { (ws.opn.getD j default) with place := (ws.opn.getD j default).place + s.length } } := wb_wrote hj hq ⟨ho, htr, htx, hfl, hpl, hsi⟩ _ _
    have hgd : (ws.opn.set j { (ws.opn.getD j default) with place := (ws.opn.getD j default).place + s.length }).getD j default = { (ws.opn.getD j default) with place := (ws.opn.getD j default).place + s.length } := getD_set (by omega) _ _
    refine rg (y4 ?_)
    refine Y1 (Yv.loadBox rfl ag_9 (i := 0) rfl eV (r := sv (ws.opn.getD j default).name) ((name_at (by rw [List.length_set]; omega)).trans (by rw [hgd]))) ?_
    refine y1 ?_
    refine ka (say30 b m { ws with files := ws.files.set q { (ws.files.getD q default) with bytes := writeAt (ws.files.getD q default).bytes (ws.opn.getD j default).place s, A := A1, c := c1 }, opn := ws.opn.set j { (ws.opn.getD j default) with place := (ws.opn.getD j default).place + s.length } } 3 (ws.opn.getD j default).name s (n + s.length) hw2 (by omega) (by omega)) ?_
    rintro t87 S87 ⟨rfl, A87, c87, rfl⟩
    refine nl (rs (y3 (nl ?_)))
    refine rt ?_
    first
     | exact ⟨rfl, none, 0, none, 0, by unfold wrF; rw [if_pos h3f]⟩
     | exact ⟨rfl, A1, c1, A87, c87, by unfold wrF; rw [if_neg hs0]⟩
   refine Y1 (Yv.loadBox rfl ag_9 (i := 0) rfl eV (name_at (by omega))) (nl ?_)
   refine op 3 ?_
   refine y1 (nl ?_)
   refine op 9 ?_
   refine AWL.mapUpd (k := .s _) (i := 1) (r := .v (.slice A1 (padTo (ws.files.getD q default).bytes ((ws.opn.getD j default).place + s.length)).length c1)) rfl rfl (.inl rfl) mp_67 rfl (E rfl rfl) (E rfl rfl) (E rfl rfl) rfl rfl (files_good _) (nl ?_)
   refine dn ?_
   refine rs (y3 ?_)
   refine Y1 (Yv.loadBox rfl ag_3 (i := 0) rfl eV (place_at (by omega))) ?_
   refine y5 ?_
   refine AWL.storeBox (i := 0) rfl rfl rfl ag_3 rfl (E rfl rfl) (E rfl rfl) rfl rfl (by rw [wCells_len, ho]; omega) (nl ?_)
   refine AW.eqS (S' := WSt b m { ws with files := ws.files.set q { (ws.files.getD q default) with bytes := writeAt (ws.files.getD q default).bytes (ws.opn.getD j default).place s, A := A1, c := c1 }, opn := ws.opn.set j { (ws.opn.getD j default) with place := (ws.opn.getD j default).place + s.length } }) ?_ ?_
   ·have e0 : { (ws.files.getD q default) with bytes := writeAt (ws.files.getD q default).bytes (ws.opn.getD j default).place s, A := A1, c := c1 }.bytes.length = (padTo (ws.files.getD q default).bytes ((ws.opn.getD j default).place + s.length)).length := by rw [hgl]; exact writeAt_len _ _ _
    have e1 := put_file { (ws.files.getD q default) with bytes := writeAt (ws.files.getD q default).bytes (ws.opn.getD j default).place s, A := A1, c := c1 } hu hq rfl
    have e2 := set_desc (m := m) (s := ws.stdin) (A := ws.tA) (n := ws.trace.length) (c := ws.tc) (show j < ws.opn.length by omega) 2 1 [.v (.int .i64 (((ws.opn.getD j default).place + s.length : Nat) : Int))] { (ws.opn.getD j default) with place := (ws.opn.getD j default).place + s.length } (by decide) rfl
    have e3 := writeAt_cells (ws.files.getD q default).bytes (ws.opn.getD j default).place s
    have e4 : fileRow { (ws.files.getD q default) with bytes := writeAt (ws.files.getD q default).bytes (ws.opn.getD j default).place s, A := A1, c := c1 } = .row A1 (padTo (ws.files.getD q default).bytes ((ws.opn.getD j default).place + s.length)).length c1 5 1 ((List.map u8 (padTo (ws.files.getD q default).bytes ((ws.opn.getD j default).place + s.length))).take (ws.opn.getD j default).place ++ List.map u8 s ++ (List.map u8 (padTo (ws.files.getD q default).bytes ((ws.opn.getD j default).place + s.length))).drop ((ws.opn.getD j default).place + s.length)) := by
     unfold fileRow; rw [e3]; simp only; rw [writeAt_len, hgl]
    simp only [e0] at e1
    rw [← wst_wrote { (ws.files.getD q default) with bytes := (padTo (ws.files.getD q default).bytes ((ws.opn.getD j default).place + s.length)), A := A1, c := c1 } { (ws.files.getD q default) with bytes := writeAt (ws.files.getD q default).bytes (ws.opn.getD j default).place s, A := A1, c := c1 } { (ws.opn.getD j default) with place := (ws.opn.getD j default).place + s.length }, ← e1, ← e2, e4, hnm]
    rfl
   have hw2 : WB (n + s.length) { ws with files := ws.files.set q { (ws.files.getD q default) with bytes := writeAt (ws.files.getD q default).bytes (ws.opn.getD j default).place s, A := A1, c := c1 }, opn := ws.opn.set j { (ws.opn.getD j default) with place := (ws.opn.getD j default).place + s.length } } := wb_wrote hj hq ⟨ho, htr, htx, hfl, hpl, hsi⟩ _ _
   have hgd : (ws.opn.set j { (ws.opn.getD j default) with place := (ws.opn.getD j default).place + s.length }).getD j default = { (ws.opn.getD j default) with place := (ws.opn.getD j default).place + s.length } := getD_set (by omega) _ _
   refine rg (y4 ?_)
   refine Y1 (Yv.loadBox rfl ag_9 (i := 0) rfl eV (r := sv (ws.opn.getD j default).name) ((name_at (by rw [List.length_set]; omega)).trans (by rw [hgd]))) ?_
   refine y1 ?_
   refine ka (say30 b m { ws with files := ws.files.set q { (ws.files.getD q default) with bytes := writeAt (ws.files.getD q default).bytes (ws.opn.getD j default).place s, A := A1, c := c1 }, opn := ws.opn.set j { (ws.opn.getD j default) with place := (ws.opn.getD j default).place + s.length } } 3 (ws.opn.getD j default).name s (n + s.length) hw2 (by omega) (by omega)) ?_
   rintro t87 S87 ⟨rfl, A87, c87, rfl⟩
   refine nl (rs (y3 (nl ?_)))
   refine rt ?_
   first
    | exact ⟨rfl, none, 0, none, 0, by unfold wrF; rw [if_pos h3f]⟩
    | exact ⟨rfl, A1, c1, A87, c87, by unfold wrF; rw [if_neg hs0]⟩
  replace h3f := sm h3f
  refine sp (rs (y3 (nl ?_)))
  refine rt ?_
  first
   | exact ⟨rfl, none, 0, none, 0, by unfold wrF; rw [if_pos h3f]⟩
   | exact ⟨rfl, A1, c1, A87, c87, by unfold wrF; rw [if_neg hs0]⟩
 omega

def putF (f : FileR) : List FileR → List FileR
 | [] => [f]
 | g :: r => if g.name = f.name then f :: r else g :: putF f r
def hasK (name : List UInt8) (l : List FileR) : Bool := (getK (.s name) (l.map fileKey)).isSome
def freeIx (o : List Desc) : Nat := o.findIdx fun d => decide (d.kind = 0)
def openR (name : List UInt8) (flags : Int) (ws : WS) : Int :=
 if 255 < name.length then -36 else if (flags ≠ 0 ∧ flags ≠ 577) ∨ 0 ≤ Lib.indexByte name 0 then -22 else if name = [] then -2 else if flags = 0 ∧ hasK name ws.files = false then -2 else if freeIx ws.opn < 19 then freeIx ws.opn else -24
def openS (name : List UInt8) (flags : Int) (A : Option Addr) (c : Nat) (tA : Option Addr) (tc : Nat) (ws : WS) : WS :=
 if openR name flags ws < 0 then ws else if flags = 577 then
  { ws with opn := ws.opn.set (freeIx ws.opn) ⟨5, name, 0⟩, files := putF ⟨name, [], A, c⟩ ws.files, trace := ws.trace ++ [⟨3, name, []⟩], tA := tA, tc := tc }
 else { ws with opn := ws.opn.set (freeIx ws.opn) ⟨4, name, 0⟩ }
theorem put_key (f : FileR) : ∀ (l : List FileR), putK (.s f.name) (.v (.slice f.A f.bytes.length f.c)) (l.map fileKey) = (putF f l).map fileKey
 | [] => rfl
 | g :: r => by
  rw [List.map_cons, putK, putF]
  by_cases h : g.name = f.name
  ·rw [if_pos h, if_pos (by simp [fileKey, h])]; rfl
  ·rw [if_neg h, if_neg (by simpa [fileKey] using h), put_key f r]; rfl
theorem put_rows (f : FileR) : ∀ (l : List FileR), ∃ S' : St, S'.Sublist (l.map fileRow ++ [fileRow f]) ∧ ((putF f l).map fileRow).Perm S'
 | [] => ⟨_, .refl _, .refl _⟩
 | g :: r => by
  rw [putF]
  split
  ·exact ⟨r.map fileRow ++ [fileRow f], by rw [List.map_cons, List.cons_append]; exact List.sublist_cons_self _ _, by
    rw [List.map_cons]
    exact (List.perm_append_singleton _ _).symm⟩
  ·obtain ⟨S', h1, h2⟩ := put_rows f r
   exact ⟨fileRow g :: S', by rw [List.map_cons, List.cons_append]; exact h1.cons_cons _, by rw [List.map_cons]; exact h2.cons _⟩
theorem freeIx_is {o : List Desc} {j : Nat} (h : j < o.length) (h0 : (o.getD j default).kind = 0) (hb : ∀ i, i < j → (o.getD i default).kind ≠ 0) : freeIx o = j := by
 unfold freeIx
 rw [List.findIdx_eq h]
 refine ⟨by rw [getD_eq' h] at h0; simpa using h0, fun i hi => ?_⟩
 have := hb i hi
 rw [getD_eq' (show i < o.length by omega)] at this
 simpa using this
theorem freeIx_none {o : List Desc} (hb : ∀ i, i < o.length → (o.getD i default).kind ≠ 0) : ¬ freeIx o < o.length := by
 unfold freeIx
 intro h
 have h2 := List.findIdx_getElem (w := h)
 have h1 := hb _ h
 rw [getD_eq' h] at h1
 simp only [decide_eq_true_eq] at h2
 exact h1 h2
section
variable {cx : Cx} {env : Env} {S : St} {Q : Exit → Env → St → Prop}
theorem AW.filePut {code : Code} {a b c : Ent} {l : List FileR} (f : FileR) (hS : S = (a :: b :: c :: l.map fileRow) ++ [fileRow f]) (h : AW cx code Q env (a :: b :: c :: (putF f l).map fileRow)) : AW cx code Q env S := by
 subst hS
 obtain ⟨S', h1, h2⟩ := put_rows f l
 exact AW.drop (S' := a :: b :: c :: S') (((h1.cons_cons c).cons_cons b).cons_cons a) (AW.perm (((h2.cons c).cons b).cons a) h)
end
theorem wst_desc {b m j : Nat} {ws : WS} (hj : j < ws.opn.length) (i q : Nat) (new : List T) (d' : Desc) (hin : i + q ≤ 3) (he : descCells d' = (descCells (ws.opn.getD j default)).take i ++ new ++ (descCells (ws.opn.getD j default)).drop (i + q)) :
    (WSt b m ws).set 0 (.box b 74 ((wCells m ws.stdin ws.opn ws.tA ws.trace.length ws.tc).take (2 + j * 3 + i) ++ new ++ (wCells m ws.stdin ws.opn ws.tA ws.trace.length ws.tc).drop (2 + j * 3 + i + q))) = WSt b m { ws with opn := ws.opn.set j d' } := by
 rw [set_desc hj i q new d' hin he]; rfl
theorem wst_event {b m : Nat} {ws : WS} (ho : ws.opn.length = 19) (e : Evt) (A : Option Addr) (c : Nat) : WSt b m { ws with trace := ws.trace ++ [e], tA := A, tc := c } =
    .box b 74 ((wCells m ws.stdin ws.opn ws.tA ws.trace.length ws.tc).take 59 ++ [.v (.slice A (ws.trace.length + 1) c)] ++ (wCells m ws.stdin ws.opn ws.tA ws.trace.length ws.tc).drop 60) :: .map m (ws.files.map fileKey) :: .row A (ws.trace.length + 1) c 149 3 (ws.trace.flatMap evCells ++ evCells e) :: ws.files.map fileRow := by
 simp only [WSt, List.length_append, List.length_cons, List.length_nil, List.flatMap_append, List.flatMap_cons, List.flatMap_nil, List.append_nil, Nat.zero_add]
 rw [set_trace ho]

theorem SysOpen17 (b m : Nat) (ws : WS) (name : List UInt8) (flags : Int) (n : Nat) (hw : WB n ws) (hn : n ≤ 549755813888) :
    ACalls Tryz.prog 104 [wp b, sv name, .v (.int .i64 flags)] (WSt b m ws) (fun t S => t = .v (.int .i64 (openR name flags ws)) ∧ ∃ A c tA tc, S = WSt b m (openS name flags A c tA tc ws)) := by
 obtain ⟨ho, htr, htx, hfl, hpl, hsi⟩ := hw
 refine ai Tryz.func104 Tryz.ntmps104 fun X w0 => ?_
 refine rs (y1 ?_)
 refine nl (sq (bk (rs (y3 (nl ?_)))))
 refine cq (fun h0t => ?_) fun _ => ?_
 ·cases h0t
 refine rs (y4 (nl ?_))
 refine cq (fun _ => ?_) fun _ => ?_
 ·refine rs (y1 (nl ?_))
  refine rt ?_
  have e : openR name flags ws = -36 := by
   unfold openR
   rw [if_pos (by omega)]
  exact ⟨by rw [e]; rfl, none, 0, none, 0, by unfold openS; rw [if_pos (by omega)]⟩
 refine rs (y8 ?_)
 refine AWL.callPgF rfl rfl rfl rfl (B rfl) rfl ce_50 (E rfl rfl) (evsC (Eg rfl rfl id) (evsC (E rfl rfl) evs0)) (fun hg => indexByte32 name 0) (fun t S h => h) ?_
 refine y3 (nl ?_)
 refine cq (fun h2t => ?_) fun h2f => ?_
 ·replace h2t := sm h2t
  refine rs (y1 (nl ?_))
  refine rt ?_
  have e : openR name flags ws = -22 := by
   unfold openR
   rw [if_neg (by omega), if_pos (by omega)]
  exact ⟨by rw [e]; rfl, none, 0, none, 0, by unfold openS; rw [if_pos (by omega)]⟩
 replace h2f := sm h2f
 refine rs (y1 ?_)
 refine Y1 (Yv.eqlL rfl eV eV) ?_
 refine y1 (nl ?_)
 refine cq (fun h3t => ?_) fun h3f => ?_
 ·refine rs (y1 (nl ?_))
  refine rt ?_
  have e : openR name flags ws = -2 := by
   unfold openR
   rw [if_neg (by omega), if_neg (by omega), if_pos h3t]
  exact ⟨by rw [e]; rfl, none, 0, none, 0, by unfold openS; rw [if_pos (by omega)]⟩
 refine sp (sq (rs (y5 ?_)))
 refine Y1 (Yv.lookup2 (k := .s _) (i := 1) rfl mp_67 rfl eV eV rfl (files_good _)) ?_
 refine y5 ?_
 refine nl (rs (y6 (nl ?_)))
 refine cq (fun h4t => ?_) fun h4f => ?_
 ·replace h4t := sm h4t
  refine rs (y1 (nl ?_))
  refine rt ?_
  have e : openR name flags ws = -2 := by
   unfold openR
   rw [if_neg (by omega), if_neg (by omega), if_neg h3f, if_pos ⟨h4t.1, by unfold hasK; rw [h4t.2]⟩]
  exact ⟨by rw [e]; rfl, none, 0, none, 0, by unfold openS; rw [if_pos (by omega)]⟩
 replace h4f := sm h4f
 have hR : openR name flags ws = if freeIx ws.opn < 19 then (freeIx ws.opn : Int) else -24 := by
  unfold openR
  rw [if_neg (by omega), if_neg (by omega), if_neg h3f, if_neg (fun q => h4f.elim (fun h => h q.1) (fun h => by have := q.2; unfold hasK at this; rw [h] at this; cases this))]
 refine sp (sq (rs (y1 ?_)))
 refine nl (bk ?_)
 refine lp1 (fun (j : Nat) => [(0, true, wp b), (1, true, sv name), (2, true, .v (.int .i64 flags)), (47, true, zv j)]) (fun (j : Nat) => (WSt b m ws)) (fun (j : Nat) => j ≤ 19 ∧ ∀ i, i < j → (ws.opn.getD i default).kind ≠ 0) (fun (j : Nat) => 19 - j) 0 ?_ ?_
 ·exact ⟨Nat.zero_le _, fun i hi => absurd hi (Nat.not_lt_zero i)⟩
 intro j hinv
 obtain ⟨hj, hbef⟩ := hinv
 refine rs (y1 ?_)
 refine nl (sq ?_)
 refine cq (fun _ => ?_) fun _ => ?_
 ·refine sp (sq (bk (rs (y2 ?_))))
  refine nl (sq (rs (y4 ?_)))
  refine Y1 (Yv.indexArr rfl ar_71 eV eV (fun hg => ⟨rfl, by omega⟩)) ?_
  refine y1 ?_
  refine Y1 (Yv.loadBox rfl ag_3 (i := 0) rfl eV (kind_at (by omega))) ?_
  refine y1 (nl ?_)
  refine cq (fun h6t => ?_) fun h6f => ?_
  ·refine xt (rg (y2 (nl ?_)))
   refine ⟨j + 1, ⟨by omega, fun i hi => ?_⟩, by omega, sbZ, rfl⟩
   rcases Nat.lt_or_ge i j with h | h
   ·exact hbef i h
   obtain rfl : i = j := by omega
   simpa using h6t
  have hk0 : (ws.opn.getD j default).kind = 0 := by simpa using h6f
  have hix : freeIx ws.opn = j := freeIx_is (by omega) hk0 hbef
  rw [hix, if_pos (by omega)] at hR
  refine sp (rs (y1 ?_))
  refine kp (clone26 name (by omega)) ?_
  refine y1 ?_
  refine nl (rs (y6 ?_))
  refine Y1 (Yv.indexArr rfl ar_71 eV eV (fun hg => ⟨rfl, by omega⟩)) ?_
  refine AWL.storeBox (i := 0) rfl rfl rfl ag_70 rfl (E rfl rfl) (E rfl rfl) rfl rfl (by first | (rw [wCells_len, ho]; omega) | (simp only [wCells_len, List.length_set, ho]; omega)) (nl ?_)
  refine AW.eqS (wst_desc (b := b) (m := m) (ws := ws) (j := j) (by omega) 0 3 (descCells ⟨4, name, 0⟩) ⟨4, name, 0⟩ (by decide) rfl) ?_
  refine sq (rs (y2 (nl ?_)))
  refine cq (fun _ => ?_) fun _ => ?_
  ·refine rs (y4 ?_)
   refine Y1 (Yv.indexArr rfl ar_71 eV eV (fun hg => ⟨rfl, by omega⟩)) ?_
   refine y1 ?_
   refine AWL.storeBox (i := 0) rfl rfl rfl ag_3 rfl (E rfl rfl) (E rfl rfl) rfl rfl (by first | (rw [wCells_len, ho]; omega) | (simp only [wCells_len, List.length_set, ho]; omega)) (nl ?_)
   refine AW.eqS (S' := WSt b m { ws with opn := ws.opn.set j ⟨5, name, 0⟩ }) ?_ ?_
   ·have e := wst_desc (b := b) (m := m) (ws := { ws with opn := ws.opn.set j ⟨4, name, 0⟩ }) (j := j) (by rw [List.length_set]; omega) 0 1 [.v (.int .i64 5)] ⟨5, name, 0⟩ (by decide) (by rw [getD_set (by omega)]; rfl)
    simp only [List.set_set] at e
    rw [← e]; rfl
   refine rs (y5 ?_)
   refine AWL.buildSliceRow rfl rfl (B rfl) rfl el_23 (B rfl) rfl evs0 nB rfl rfl (fun A80 => ?_)
   refine AWL.mapUpd (k := .s _) (i := 1) rfl rfl (.inl rfl) mp_67 rfl (E rfl rfl) (E rfl rfl) (E rfl rfl) rfl rfl (files_good _) (nl ?_)
   refine AW.filePut (f := ⟨name, [], A80, 0⟩) (l := ws.files) (a := .box b 74 (wCells m ws.stdin (ws.opn.set j ⟨5, name, 0⟩) ws.tA ws.trace.length ws.tc)) (b := .map m ((putF ⟨name, [], A80, 0⟩ ws.files).map fileKey)) (c := .row ws.tA ws.trace.length ws.tc 149 3 (ws.trace.flatMap evCells)) (by
    have e := put_key ⟨name, [], A80, 0⟩ ws.files
    rw [← e]; rfl) ?_
   refine AW.eqS (S' := WSt b m { ws with opn := ws.opn.set j ⟨5, name, 0⟩, files := putF ⟨name, [], A80, 0⟩ ws.files }) rfl ?_
   refine rg (y4 ?_)
   refine Y1 (Yv.loadBox rfl ag_72 (i := 0) rfl eV (trace_at (by first | exact ho | (rw [List.length_set]; exact ho)))) ?_
   refine y2 ?_
   refine AWL.buildSliceE rfl rfl (B rfl) rfl el_72 (B rfl) rfl (evsC (E rfl rfl) evs0) nB rfl rfl ?_
   refine AWL.appendRow (i := 2) rfl rfl (B rfl) rfl el_72 (B rfl) rfl (E rfl rfl) (SrcT.sl so_72 (B rfl) (E rfl rfl) (m := 1) rfl) (by show ws.trace.length + 1 ≤ maxLen; unfold maxLen; omega) (by show (ws.trace.length + 1) * _ ≤ _; omega) (fun A89 c89 => ?_)
   refine y2 ?_
   refine AWL.storeBox (i := 0) rfl rfl rfl ag_72 rfl (E rfl rfl) (E rfl rfl) rfl rfl (by first | (rw [wCells_len, ho]; omega) | (simp only [wCells_len, List.length_set, ho]; omega)) ?_
   refine nl (rs (y2 (nl ?_)))
   refine rt ?_
   refine ⟨by rw [hR]; rfl, A80, 0, A89, c89, ?_⟩
   unfold openS
   rw [if_neg (by omega), if_pos (by omega), hix]
   have e := wst_event (b := b) (m := m) (ws := { ws with opn := ws.opn.set j ⟨5, name, 0⟩, files := putF ⟨name, [], A80, 0⟩ ws.files }) (by simpa using ho) ⟨3, name, []⟩ A89 c89
   exact e.symm
  refine sp (rs (y2 (nl ?_)))
  refine rt ?_
  refine ⟨by rw [hR]; rfl, none, 0, none, 0, ?_⟩
  unfold openS
  rw [if_neg (by omega), if_neg (by omega), hix]
 refine xt (rs (y1 (nl ?_)))
 refine rt ?_
 have hnf : ¬ freeIx ws.opn < 19 := by
  rw [← ho]
  exact freeIx_none (fun i hi => hbef i (by omega))
 rw [if_neg hnf] at hR
 exact ⟨by rw [hR]; rfl, none, 0, none, 0, by unfold openS; rw [if_pos (by omega)]⟩

def fCells (x : List UInt8 × List UInt8) : List T := [sv x.1, sv x.2]
def worldT (s : List UInt8) (l : List (List UInt8 × List UInt8)) : T := .agg [sv s, .sl 2 (l.flatMap fCells)]
theorem fk (x : List UInt8 × List UInt8) : (fCells x).length = 2 := rfl
theorem len_fc {l : List (List UInt8 × List UInt8)} : (l.flatMap fCells).length = l.length * 2 := len_flat fk l
theorem fc_get {l : List (List UInt8 × List UInt8)} {j : Nat} (h : j < l.length) : ((l.flatMap fCells).drop (j * 2)).take 2 = fCells (l.getD j default) ∧ (fCells (l.getD j default)).length = 2 := by
 refine ⟨?_, rfl⟩
 rw [drop_flat fk, List.drop_eq_getElem_cons h, List.flatMap_cons, getD_eq' h]
 rfl
def fitsB (n : List UInt8) : Bool := !decide (n = []) && decide ((n.length : Int) ≤ 255) && decide (Lib.indexByte n 0 < 0)
def stepN (acc : List (List UInt8 × List UInt8)) (x : List UInt8 × List UInt8) : List (List UInt8 × List UInt8) := if !(acc.any fun y => decide (y.1 = x.1)) && fitsB x.1 then acc ++ [x] else acc
def nF (l : List (List UInt8 × List UInt8)) : List (List UInt8 × List UInt8) := l.foldl stepN []
theorem nF_succ {l : List (List UInt8 × List UInt8)} {j : Nat} (h : j < l.length) : nF (l.take (j + 1)) = stepN (nF (l.take j)) (l.getD j default) := by
 rw [List.take_succ_eq_append_getElem h, nF, List.foldl_append, getD_eq' h]; rfl
def nb (f : FileR) : List UInt8 × List UInt8 := (f.name, f.bytes)
theorem hasK_any (name : List UInt8) : ∀ (l : List FileR), hasK name l = (l.map nb).any fun y => decide (y.1 = name)
 | [] => rfl
 | f :: r => by
  have ih := hasK_any name r
  unfold hasK at ih ⊢
  rw [List.map_cons, getK, List.map_cons, List.any_cons]
  by_cases h : f.name = name
  ·rw [if_pos (by simp [fileKey, h])]; simp [nb, h]
  ·rw [if_neg (by simpa [fileKey] using h), ih]; simp [nb, h]
def zd : Desc := ⟨0, [], 0⟩
def opnZ : List Desc := [zd, zd, zd, zd, zd, zd, zd, zd, zd, zd, zd, zd, zd, zd, zd, zd, zd, zd, zd]
def opn0 : List Desc := [⟨1, [], 0⟩, ⟨2, [], 0⟩, ⟨3, [], 0⟩, zd, zd, zd, zd, zd, zd, zd, zd, zd, zd, zd, zd, zd, zd, zd, zd]
theorem perm_new {a b r : Ent} {l : St} : (b :: a :: r :: l).Perm (a :: b :: (l ++ [r])) :=
 (List.Perm.swap a b (r :: l)).trans (((List.perm_append_singleton r l).symm.cons b).cons a)
theorem nF_uniq : ∀ (l : List (List UInt8 × List UInt8)) (acc : List (List UInt8 × List UInt8)), (acc.map (·.1)).Nodup → ((l.foldl stepN acc).map (·.1)).Nodup
 | [], acc, h => h
 | x :: r, acc, h => by
  rw [List.foldl_cons]
  refine nF_uniq r _ ?_
  unfold stepN
  split
  ·rename_i hc
   rw [List.map_append, List.nodup_append]
   refine ⟨h, by simp, fun a ha b hb => ?_⟩
   simp only [List.map_cons, List.map_nil, List.mem_singleton] at hb
   subst hb
   rintro rfl
   simp only [Bool.and_eq_true, Bool.not_eq_true', List.any_eq_false, decide_eq_true_eq] at hc
   obtain ⟨y, hy, he⟩ := List.mem_map.1 ha
   exact hc.1 y hy he
  ·exact h

theorem New9 (stdin : List UInt8) (files : List (List UInt8 × List UInt8)) (hs : stdin.length ≤ 140737488355000) (hl : files.length ≤ 1099511627776) (hd : ∀ x ∈ files, x.2.length ≤ 1099511627776) :
    ACalls Tryz.prog 5 [worldT stdin files] [] (fun t S => ∃ b m fl, t = wp b ∧ S = WSt b m ⟨fl, stdin, opn0, [], none, 0⟩ ∧ fl.map nb = nF files) := by
 refine ai Tryz.func5 Tryz.ntmps5 fun X w0 => ?_
 refine rs ?_
 refine bx fun b1 => ?_
 refine y1 ?_
 refine nl (rs ?_)
 refine AWL.makeMapOp rfl rfl (B rfl) rfl (fun b8 => ?_)
 refine y2 ?_
 refine kp (clone26 stdin hs) ?_
 refine y1 ?_
 refine bx fun b13 => ?_
 refine y1 (nl ?_)
 refine AW.eqS (S' := [.box b1 28 [sv stdin, .sl 2 (files.flatMap fCells)], .map b8 [], .box b13 74 (wCells b8 stdin opnZ none 0 0)]) rfl ?_
 refine sq (rs (y4 ?_))
 refine nl (bk ?_)
 refine lp2 (fun (j : Nat) (fl : List FileR) => [(1, true, pv b1), (3, true, wp b13), (15, true, .sl 2 (files.flatMap fCells)), (16, true, .v (.int .i64 (files.length : Int))), (17, true, zv j)]) (fun (j : Nat) (fl : List FileR) => (.box b1 28 [sv stdin, .sl 2 (files.flatMap fCells)] :: .map b8 (fl.map fileKey) :: .box b13 74 (wCells b8 stdin opnZ none 0 0) :: fl.map fileRow)) (fun (j : Nat) (fl : List FileR) => j ≤ files.length ∧ fl.map nb = nF (files.take j)) (fun (j : Nat) (fl : List FileR) => files.length - j) 0 ([]) ?_ ?_
 ·exact ⟨Nat.zero_le _, rfl⟩
 intro j fl hinv
 obtain ⟨hj, hfl⟩ := hinv
 refine rs (y1 ?_)
 refine nl (sq ?_)
 refine cq (fun _ => ?_) fun _ => ?_
 ·have hsu := nF_succ (l := files) (j := j) (by omega)
  refine sp (sq (bk (rs (y1 ?_))))
  refine Y1 (Yv.loadRpA rfl ag_76 eV (fun hg => fc_get (by omega))) ?_
  refine bx fun b5 => ?_
  refine AWL.perm (S' := .box b5 76 [sv [], sv []] :: .box b1 28 [sv stdin, .sl 2 (files.flatMap fCells)] :: .map b8 (fl.map fileKey) :: .box b13 74 (wCells b8 stdin opnZ none 0 0) :: fl.map fileRow) (List.perm_append_singleton _ _).symm ?_
  refine y1 ?_
  refine nl (rq (q6 ?_))
  refine Q1 (Yv.lookup2 (k := .s _) (i := 2) rfl mp_67 rfl eV eV rfl (files_good _)) ?_
  refine q5 ?_
  refine nq (rs (y5 ?_))
  refine AWL.callPgT rfl rfl rfl rfl (B rfl) rfl ce_25 (E rfl rfl) (evsC (Eg rfl rfl id) evs0) (fun hg => fits27 (files.getD j default).1) (fun t S h => h) ?_
  refine y1 (nl ?_)
  refine cq (fun h1t => ?_) fun h1f => ?_
  ·have hadd : (!((nF (files.take j)).any fun y => decide (y.1 = (files.getD j default).1)) && fitsB (files.getD j default).1) = true := by
    rw [← hfl, ← hasK_any]; exact h1t
   have hnone : ∀ g ∈ fl, g.name ≠ (files.getD j default).1 := fun g hg he => by
    simp only [Bool.and_eq_true, Bool.not_eq_true', ← hfl, List.any_eq_false, decide_eq_true_eq] at hadd
    exact hadd.1 (nb g) (List.mem_map.2 ⟨g, hg, rfl⟩) he
   refine AW.regionP rfl ?_
   refine tp 0 ?_
   refine tp 1 ?_
   refine tp 2 ?_
   refine tp 4 ?_
   refine tp 6 ?_
   refine AWP.three (i := 3) (j := 5) (k := 7) (by kernel_rfl) rfl rfl rfl ?_ ?_ ?_
   ·refine y1 (nl ?_)
    refine wp2 5 7 ?_ ?_
    ·refine y1 (nl ?_)
     refine op 7 ?_
     refine y1 (nl ?_)
     refine op 8 ?_
     refine AWL.strBytesRow rfl rfl (B rfl) rfl st_9 so_23 kd_5 (E rfl rfl) (by show _ ≤ _; have := hd _ (getD_mem' (l := files) (j := j) (by omega)); unfold maxLen; exact Nat.le_trans this (by decide)) (fun A46 c46 => ?_)
     refine nl ?_
     refine op 9 ?_
     refine AWL.mapUpd (k := .s _) (i := 2) rfl rfl (.inl rfl) mp_67 rfl (E rfl rfl) (E rfl rfl) (E rfl rfl) rfl rfl (files_good _) (nl ?_)
     refine dn ?_
     refine AW.dropAt 0 ?_
     refine rg (y2 (nl ?_))
     have hkey := put_new (l := fl) ⟨(files.getD j default).1, (files.getD j default).2, A46, c46⟩ hnone
     refine ⟨j + 1, fl ++ [⟨(files.getD j default).1, (files.getD j default).2, A46, c46⟩], ⟨by omega, ?_⟩, by omega, sbZ, ?_⟩
     ·rw [hsu, stepN, if_pos hadd, ← hfl, List.map_append]; rfl
     rw [← hkey, List.map_append]; rfl
    refine y1 (nl ?_)
    refine wp2 5 8 ?_ ?_
    ·refine y1 (nl ?_)
     refine op 8 ?_
     refine AWL.strBytesRow rfl rfl (B rfl) rfl st_9 so_23 kd_5 (E rfl rfl) (by show _ ≤ _; have := hd _ (getD_mem' (l := files) (j := j) (by omega)); unfold maxLen; exact Nat.le_trans this (by decide)) (fun A46 c46 => ?_)
     refine nl ?_
     refine op 9 ?_
     refine AWL.mapUpd (k := .s _) (i := 2) rfl rfl (.inl rfl) mp_67 rfl (E rfl rfl) (E rfl rfl) (E rfl rfl) rfl rfl (files_good _) (nl ?_)
     refine dn ?_
     refine AW.dropAt 0 ?_
     refine rg (y2 (nl ?_))
     have hkey := put_new (l := fl) ⟨(files.getD j default).1, (files.getD j default).2, A46, c46⟩ hnone
     refine ⟨j + 1, fl ++ [⟨(files.getD j default).1, (files.getD j default).2, A46, c46⟩], ⟨by omega, ?_⟩, by omega, sbZ, ?_⟩
     ·rw [hsu, stepN, if_pos hadd, ← hfl, List.map_append]; rfl
     rw [← hkey, List.map_append]; rfl
    refine AWL.strBytesRow rfl rfl (B rfl) rfl st_9 so_23 kd_5 (E rfl rfl) (by show _ ≤ _; have := hd _ (getD_mem' (l := files) (j := j) (by omega)); unfold maxLen; exact Nat.le_trans this (by decide)) (fun A46 c46 => ?_)
    refine nl ?_
    refine op 5 ?_
    refine y1 (nl ?_)
    refine op 9 ?_
    refine AWL.mapUpd (k := .s _) (i := 2) rfl rfl (.inl rfl) mp_67 rfl (E rfl rfl) (E rfl rfl) (E rfl rfl) rfl rfl (files_good _) (nl ?_)
    refine dn ?_
    refine AW.dropAt 0 ?_
    refine rg (y2 (nl ?_))
    have hkey := put_new (l := fl) ⟨(files.getD j default).1, (files.getD j default).2, A46, c46⟩ hnone
    refine ⟨j + 1, fl ++ [⟨(files.getD j default).1, (files.getD j default).2, A46, c46⟩], ⟨by omega, ?_⟩, by omega, sbZ, ?_⟩
    ·rw [hsu, stepN, if_pos hadd, ← hfl, List.map_append]; rfl
    rw [← hkey, List.map_append]; rfl
   ·refine y1 (nl ?_)
    refine wp2 3 7 ?_ ?_
    ·refine y1 (nl ?_)
     refine op 7 ?_
     refine y1 (nl ?_)
     refine op 8 ?_
     refine AWL.strBytesRow rfl rfl (B rfl) rfl st_9 so_23 kd_5 (E rfl rfl) (by show _ ≤ _; have := hd _ (getD_mem' (l := files) (j := j) (by omega)); unfold maxLen; exact Nat.le_trans this (by decide)) (fun A46 c46 => ?_)
     refine nl ?_
     refine op 9 ?_
     refine AWL.mapUpd (k := .s _) (i := 2) rfl rfl (.inl rfl) mp_67 rfl (E rfl rfl) (E rfl rfl) (E rfl rfl) rfl rfl (files_good _) (nl ?_)
     refine dn ?_
     refine AW.dropAt 0 ?_
     refine rg (y2 (nl ?_))
     have hkey := put_new (l := fl) ⟨(files.getD j default).1, (files.getD j default).2, A46, c46⟩ hnone
     refine ⟨j + 1, fl ++ [⟨(files.getD j default).1, (files.getD j default).2, A46, c46⟩], ⟨by omega, ?_⟩, by omega, sbZ, ?_⟩
     ·rw [hsu, stepN, if_pos hadd, ← hfl, List.map_append]; rfl
     rw [← hkey, List.map_append]; rfl
    refine y1 (nl ?_)
    refine wp2 3 8 ?_ ?_
    ·refine y1 (nl ?_)
     refine op 8 ?_
     refine AWL.strBytesRow rfl rfl (B rfl) rfl st_9 so_23 kd_5 (E rfl rfl) (by show _ ≤ _; have := hd _ (getD_mem' (l := files) (j := j) (by omega)); unfold maxLen; exact Nat.le_trans this (by decide)) (fun A46 c46 => ?_)
     refine nl ?_
     refine op 9 ?_
     refine AWL.mapUpd (k := .s _) (i := 2) rfl rfl (.inl rfl) mp_67 rfl (E rfl rfl) (E rfl rfl) (E rfl rfl) rfl rfl (files_good _) (nl ?_)
     refine dn ?_
     refine AW.dropAt 0 ?_
     refine rg (y2 (nl ?_))
     have hkey := put_new (l := fl) ⟨(files.getD j default).1, (files.getD j default).2, A46, c46⟩ hnone
     refine ⟨j + 1, fl ++ [⟨(files.getD j default).1, (files.getD j default).2, A46, c46⟩], ⟨by omega, ?_⟩, by omega, sbZ, ?_⟩
     ·rw [hsu, stepN, if_pos hadd, ← hfl, List.map_append]; rfl
     rw [← hkey, List.map_append]; rfl
    refine AWL.strBytesRow rfl rfl (B rfl) rfl st_9 so_23 kd_5 (E rfl rfl) (by show _ ≤ _; have := hd _ (getD_mem' (l := files) (j := j) (by omega)); unfold maxLen; exact Nat.le_trans this (by decide)) (fun A46 c46 => ?_)
    refine nl ?_
    refine op 3 ?_
    refine y1 (nl ?_)
    refine op 9 ?_
    refine AWL.mapUpd (k := .s _) (i := 2) rfl rfl (.inl rfl) mp_67 rfl (E rfl rfl) (E rfl rfl) (E rfl rfl) rfl rfl (files_good _) (nl ?_)
    refine dn ?_
    refine AW.dropAt 0 ?_
    refine rg (y2 (nl ?_))
    have hkey := put_new (l := fl) ⟨(files.getD j default).1, (files.getD j default).2, A46, c46⟩ hnone
    refine ⟨j + 1, fl ++ [⟨(files.getD j default).1, (files.getD j default).2, A46, c46⟩], ⟨by omega, ?_⟩, by omega, sbZ, ?_⟩
    ·rw [hsu, stepN, if_pos hadd, ← hfl, List.map_append]; rfl
    rw [← hkey, List.map_append]; rfl
   refine y1 (nl ?_)
   refine AWP.three (i := 3) (j := 5) (k := 8) (by kernel_rfl) rfl rfl rfl ?_ ?_ ?_
   ·refine y1 (nl ?_)
    refine wp2 5 8 ?_ ?_
    ·refine y1 (nl ?_)
     refine op 8 ?_
     refine AWL.strBytesRow rfl rfl (B rfl) rfl st_9 so_23 kd_5 (E rfl rfl) (by show _ ≤ _; have := hd _ (getD_mem' (l := files) (j := j) (by omega)); unfold maxLen; exact Nat.le_trans this (by decide)) (fun A46 c46 => ?_)
     refine nl ?_
     refine op 9 ?_
     refine AWL.mapUpd (k := .s _) (i := 2) rfl rfl (.inl rfl) mp_67 rfl (E rfl rfl) (E rfl rfl) (E rfl rfl) rfl rfl (files_good _) (nl ?_)
     refine dn ?_
     refine AW.dropAt 0 ?_
     refine rg (y2 (nl ?_))
     have hkey := put_new (l := fl) ⟨(files.getD j default).1, (files.getD j default).2, A46, c46⟩ hnone
     refine ⟨j + 1, fl ++ [⟨(files.getD j default).1, (files.getD j default).2, A46, c46⟩], ⟨by omega, ?_⟩, by omega, sbZ, ?_⟩
     ·rw [hsu, stepN, if_pos hadd, ← hfl, List.map_append]; rfl
     rw [← hkey, List.map_append]; rfl
    refine AWL.strBytesRow rfl rfl (B rfl) rfl st_9 so_23 kd_5 (E rfl rfl) (by show _ ≤ _; have := hd _ (getD_mem' (l := files) (j := j) (by omega)); unfold maxLen; exact Nat.le_trans this (by decide)) (fun A46 c46 => ?_)
    refine nl ?_
    refine op 5 ?_
    refine y1 (nl ?_)
    refine op 9 ?_
    refine AWL.mapUpd (k := .s _) (i := 2) rfl rfl (.inl rfl) mp_67 rfl (E rfl rfl) (E rfl rfl) (E rfl rfl) rfl rfl (files_good _) (nl ?_)
    refine dn ?_
    refine AW.dropAt 0 ?_
    refine rg (y2 (nl ?_))
    have hkey := put_new (l := fl) ⟨(files.getD j default).1, (files.getD j default).2, A46, c46⟩ hnone
    refine ⟨j + 1, fl ++ [⟨(files.getD j default).1, (files.getD j default).2, A46, c46⟩], ⟨by omega, ?_⟩, by omega, sbZ, ?_⟩
    ·rw [hsu, stepN, if_pos hadd, ← hfl, List.map_append]; rfl
    rw [← hkey, List.map_append]; rfl
   ·refine y1 (nl ?_)
    refine wp2 3 8 ?_ ?_
    ·refine y1 (nl ?_)
     refine op 8 ?_
     refine AWL.strBytesRow rfl rfl (B rfl) rfl st_9 so_23 kd_5 (E rfl rfl) (by show _ ≤ _; have := hd _ (getD_mem' (l := files) (j := j) (by omega)); unfold maxLen; exact Nat.le_trans this (by decide)) (fun A46 c46 => ?_)
     refine nl ?_
     refine op 9 ?_
     refine AWL.mapUpd (k := .s _) (i := 2) rfl rfl (.inl rfl) mp_67 rfl (E rfl rfl) (E rfl rfl) (E rfl rfl) rfl rfl (files_good _) (nl ?_)
     refine dn ?_
     refine AW.dropAt 0 ?_
     refine rg (y2 (nl ?_))
     have hkey := put_new (l := fl) ⟨(files.getD j default).1, (files.getD j default).2, A46, c46⟩ hnone
     refine ⟨j + 1, fl ++ [⟨(files.getD j default).1, (files.getD j default).2, A46, c46⟩], ⟨by omega, ?_⟩, by omega, sbZ, ?_⟩
     ·rw [hsu, stepN, if_pos hadd, ← hfl, List.map_append]; rfl
     rw [← hkey, List.map_append]; rfl
    refine AWL.strBytesRow rfl rfl (B rfl) rfl st_9 so_23 kd_5 (E rfl rfl) (by show _ ≤ _; have := hd _ (getD_mem' (l := files) (j := j) (by omega)); unfold maxLen; exact Nat.le_trans this (by decide)) (fun A46 c46 => ?_)
    refine nl ?_
    refine op 3 ?_
    refine y1 (nl ?_)
    refine op 9 ?_
    refine AWL.mapUpd (k := .s _) (i := 2) rfl rfl (.inl rfl) mp_67 rfl (E rfl rfl) (E rfl rfl) (E rfl rfl) rfl rfl (files_good _) (nl ?_)
    refine dn ?_
    refine AW.dropAt 0 ?_
    refine rg (y2 (nl ?_))
    have hkey := put_new (l := fl) ⟨(files.getD j default).1, (files.getD j default).2, A46, c46⟩ hnone
    refine ⟨j + 1, fl ++ [⟨(files.getD j default).1, (files.getD j default).2, A46, c46⟩], ⟨by omega, ?_⟩, by omega, sbZ, ?_⟩
    ·rw [hsu, stepN, if_pos hadd, ← hfl, List.map_append]; rfl
    rw [← hkey, List.map_append]; rfl
   refine AWL.strBytesRow rfl rfl (B rfl) rfl st_9 so_23 kd_5 (E rfl rfl) (by show _ ≤ _; have := hd _ (getD_mem' (l := files) (j := j) (by omega)); unfold maxLen; exact Nat.le_trans this (by decide)) (fun A46 c46 => ?_)
   refine nl ?_
   refine wp2 3 5 ?_ ?_
   ·refine y1 (nl ?_)
    refine op 5 ?_
    refine y1 (nl ?_)
    refine op 9 ?_
    refine AWL.mapUpd (k := .s _) (i := 2) rfl rfl (.inl rfl) mp_67 rfl (E rfl rfl) (E rfl rfl) (E rfl rfl) rfl rfl (files_good _) (nl ?_)
    refine dn ?_
    refine AW.dropAt 0 ?_
    refine rg (y2 (nl ?_))
    have hkey := put_new (l := fl) ⟨(files.getD j default).1, (files.getD j default).2, A46, c46⟩ hnone
    refine ⟨j + 1, fl ++ [⟨(files.getD j default).1, (files.getD j default).2, A46, c46⟩], ⟨by omega, ?_⟩, by omega, sbZ, ?_⟩
    ·rw [hsu, stepN, if_pos hadd, ← hfl, List.map_append]; rfl
    rw [← hkey, List.map_append]; rfl
   refine y1 (nl ?_)
   refine op 3 ?_
   refine y1 (nl ?_)
   refine op 9 ?_
   refine AWL.mapUpd (k := .s _) (i := 2) rfl rfl (.inl rfl) mp_67 rfl (E rfl rfl) (E rfl rfl) (E rfl rfl) rfl rfl (files_good _) (nl ?_)
   refine dn ?_
   refine AW.dropAt 0 ?_
   refine rg (y2 (nl ?_))
   have hkey := put_new (l := fl) ⟨(files.getD j default).1, (files.getD j default).2, A46, c46⟩ hnone
   refine ⟨j + 1, fl ++ [⟨(files.getD j default).1, (files.getD j default).2, A46, c46⟩], ⟨by omega, ?_⟩, by omega, sbZ, ?_⟩
   ·rw [hsu, stepN, if_pos hadd, ← hfl, List.map_append]; rfl
   rw [← hkey, List.map_append]; rfl
  have hadd : ¬ (!((nF (files.take j)).any fun y => decide (y.1 = (files.getD j default).1)) && fitsB (files.getD j default).1) = true := by
   rw [← hfl, ← hasK_any]; intro h; exact absurd (h.symm.trans h1f) (by decide)
  refine sp ?_
  refine AW.dropAt 0 ?_
  refine rg (y2 (nl ?_))
  refine ⟨j + 1, fl, ⟨by omega, ?_⟩, by omega, sbZ, rfl⟩
  rw [hsu, stepN, if_neg hadd]; exact hfl
 refine xt ?_
 refine AW.rowNil 149 3 ?_
 refine AW.dropAt 0 ?_
 refine AW.perm (S' := .box b13 74 (wCells b8 stdin opnZ none 0 0) :: .map b8 (fl.map fileKey) :: .row none 0 0 149 3 [] :: fl.map fileRow) perm_new ?_
 refine AW.rseqP rfl ?_
 refine tp 0 ?_
 refine tp 1 ?_
 refine tp 2 ?_
 refine tp 3 ?_
 refine tp 4 ?_
 refine T1 (i := 5) rfl (freeArr (j := 0) rfl ar_71 (E rfl rfl) (E rfl rfl) ⟨rfl, by decide⟩) ?_
 refine tp 6 ?_
 refine tp 8 ?_
 refine tp 9 ?_
 refine tp 13 ?_
 refine tp 14 ?_
 refine op 7 ?_
 refine y1 (nl ?_)
 refine op 10 ?_
 refine Y1 (Yv.indexArr (j := 1) rfl ar_71 (E rfl rfl) (E rfl rfl) (fun hg => ⟨rfl, by decide⟩)) (nl ?_)
 refine op 11 ?_
 refine y1 (nl ?_)
 refine op 12 ?_
 refine y1 (nl ?_)
 refine op 15 ?_
 refine Y1 (Yv.indexArr (j := 2) rfl ar_71 (E rfl rfl) (E rfl rfl) (fun hg => ⟨rfl, by decide⟩)) (nl ?_)
 refine op 16 ?_
 refine y1 (nl ?_)
 refine op 17 ?_
 refine y1 (nl ?_)
 refine dn ?_
 refine rs (y2 (nl ?_))
 refine rt ?_
 refine ⟨b13, b8, fl, rfl, ?_, by rw [hfl, List.take_of_length_le (by omega)]⟩
 rfl

end Go.Proofs.YtlfklgganokgdaaGreat.V
