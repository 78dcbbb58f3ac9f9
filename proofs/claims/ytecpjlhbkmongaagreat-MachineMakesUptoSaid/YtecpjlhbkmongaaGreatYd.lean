/-
  TEXTS JOINED: Mm6, Mm7, Mm8, Mm9, Mm10, Mm11, Facts, Wk1, Dec, Wk19.
-/
import Derived.Test.YtecpjlhbkmongaaGreatRows
import Derived.Test.YtecpjlhbkmongaaGreatYc
set_option linter.unusedSimpArgs false
set_option linter.unusedVariables false
set_option linter.unusedSectionVars false
set_option linter.unnecessarySimpa false
namespace Go.Proofs.YtecpjlhbkmongaaGreat.M
open Go Go.RowKit

set_option maxHeartbeats 400000 in
theorem clone33  :
    ACalls Tryz.prog 33 [sv []] [] (fun t S => t = sv []) := by
 refine ACalls.intro Tryz.func33 rfl Tryz.ntmps33 (Nat.le_of_ble_eq_true rfl) rfl fun X w0 => ?_
 refine AW.rseq ?_
 refine AWL.y rfl rfl (B rfl) (Yv.assign rfl (E rfl rfl)) ?_
 refine AWL.nil ?_
 refine AW.seq ?_
 refine AW.rseq ?_
 refine AWL.y rfl rfl (B rfl) (Yv.move rfl (E rfl rfl)) ?_
 refine AWL.y rfl rfl (B rfl) (Yv.lenL rfl st_9 (E rfl rfl)) ?_
 refine AWL.y rfl rfl (B rfl) (Yv.eql rfl (E rfl rfl) (E rfl rfl)) ?_
 refine AWL.nil ?_
 refine AW.cond rfl (fun h0t => ?_) (fun h0f => ?_)
 ·try replace h0t := of_decide_eq_true h0t
  refine AW.rseq ?_
  refine AWL.y rfl rfl (B rfl) (Yv.assign rfl (E rfl rfl)) ?_
  refine AWL.nil ?_
  refine AW.ret (retI (.tmp rfl .nil) ?_)
  rfl
 try replace h0f := of_decide_eq_false h0f
 simp at h0f

set_option maxHeartbeats 400000 in
theorem clone23  :
    ACalls Tryz.prog 23 [sv []] [] (fun t S => t = sv []) := by
 refine ACalls.intro Tryz.func23 rfl Tryz.ntmps23 (Nat.le_of_ble_eq_true rfl) rfl fun X w0 => ?_
 refine AW.rseq ?_
 refine AWL.y rfl rfl (B rfl) (Yv.assign rfl (E rfl rfl)) ?_
 refine AWL.nil ?_
 refine AW.rseq ?_
 refine AWL.y rfl rfl (B rfl) (Yv.move rfl (E rfl rfl)) ?_
 refine AWL.callT rfl rfl (B rfl) rfl ce_33 (E rfl rfl) (evsC (E rfl rfl) evs0) (clone33) ?_
 rintro t4 S4 rfl
 refine AWL.y rfl rfl (B rfl) (Yv.assign rfl (E rfl rfl)) ?_
 refine AWL.nil ?_
 refine AW.ret (retI (.tmp rfl .nil) ?_)
 rfl

def wzC (b : Nat) : List T := [mapT b, sv []] ++ (List.replicate 19 [zi 0, sv [], zi 0]).flatten ++ [.v (.slice none 0 0)]
set_option maxHeartbeats 2000000 in
theorem wNew6  :
    ACalls Tryz.prog 6 [.agg [sv [], .v (.slice none 0 0)]] [] (fun t S => ∃ b, t = .v (.pointer (some ⟨b, 0, none⟩))) := by
 refine ACalls.intro Tryz.func6 rfl Tryz.ntmps6 (Nat.le_of_ble_eq_true rfl) rfl fun X w0 => ?_
 refine AW.rseq ?_
 refine AWL.boxOp rfl rfl (B rfl) rfl (E rfl rfl) rfl (fun b1 => ?_)
 refine AWL.y rfl rfl (B rfl) (Yv.assign rfl (E rfl rfl)) ?_
 refine AWL.nil ?_
 refine AW.rseq ?_
 refine AWL.makeMapOp rfl rfl (B rfl) rfl (fun b8 => ?_)
 refine AWL.y rfl rfl (B rfl) (Yv.fieldBox rfl fo_38_0 (E rfl rfl)) ?_
 refine AWL.y rfl rfl (B rfl) (Yv.loadBox rfl ag_9 (i := 0) rfl (E rfl rfl) rfl) ?_
 refine AWL.callT rfl rfl (B rfl) rfl ce_23 (E rfl rfl) (evsC (E rfl rfl) evs0) (clone23) ?_
 rintro t11 S11 rfl
 refine AWL.y rfl rfl (B rfl) (Yv.buildS rfl sh_81 (evpC (E rfl rfl) (evpC (E rfl rfl) evp0)) (fun _ => rfl)) ?_
 refine AWL.boxOp rfl rfl (B rfl) rfl (E rfl rfl) rfl (fun b13 => ?_)
 refine AWL.y rfl rfl (B rfl) (Yv.assign rfl (E rfl rfl)) ?_
 refine AWL.nil ?_
 refine AW.eqS (S' := [.box b1 38 [sv [], .v (.slice none 0 0)], .map b8 [], .box b13 81 (wzC b8)]) rfl ?_
 refine AW.seq ?_
 refine AW.rseq ?_
 refine AWL.y rfl rfl (B rfl) (Yv.fieldBox rfl fo_38_1 (E rfl rfl)) ?_
 refine AWL.y rfl rfl (B rfl) (Yv.loadBox rfl ag_36 (i := 0) rfl (E rfl rfl) rfl) ?_
 refine AWL.y rfl rfl (B rfl) (Yv.lenV rfl so_36 (E rfl rfl)) ?_
 refine AWL.y rfl rfl (B rfl) (Yv.move rfl (E rfl rfl)) ?_
 refine AWL.nil ?_
 refine AW.retype (k := 15) (t' := .sl 2 []) rfl (nil_sl (by decide)) ?_
 refine AW.block ?_
 refine AW.loop (fun (j : Nat) => [(3, true, .v (.pointer (some ⟨b13, 0, none⟩))), (15, true, .sl 2 []), (16, true, zi (0 : Int)), (17, true, zi (0 : Int))]) (fun (j : Nat) => [.box b1 38 [sv [], .v (.slice none 0 0)], .map b8 [], .box b13 81 (wzC b8)]) (fun (j : Nat) => True) (fun (j : Nat) => 0) 0 ?_ ?_ ?_ ?_
 ·trivial
 ·exact (Sub.cons rfl rfl (Sub.cons rfl rfl (Sub.cons rfl rfl (Sub.cons rfl rfl Sub.nil))))
 ·rfl
 intro j hinv
 refine AW.rseq ?_
 refine AWL.y rfl rfl (B rfl) (Yv.lss rfl (E rfl rfl) (E rfl rfl)) ?_
 refine AWL.nil ?_
 refine AW.seq ?_
 refine AW.cond rfl (fun h0t => ?_) (fun h0f => ?_)
 ·try replace h0t := of_decide_eq_true h0t
  cases h0t
 try replace h0f := of_decide_eq_false h0f
 refine AW.exit ?_
 refine AW.rseqP rfl ?_
 refine AWP.take (i := 0) rfl (by kernel_rfl) (by kernel_rfl) (by kernel_rfl) rfl rfl (B rfl) (freeMove rfl (E rfl rfl)) ?_
 refine AWP.take (i := 1) rfl (by kernel_rfl) (by kernel_rfl) (by kernel_rfl) rfl rfl (B rfl) (freeMove rfl (E rfl rfl)) ?_
 refine AWP.take (i := 2) rfl (by kernel_rfl) (by kernel_rfl) (by kernel_rfl) rfl rfl (B rfl) (freeMove rfl (E rfl rfl)) ?_
 refine AWP.take (i := 3) rfl (by kernel_rfl) (by kernel_rfl) (by kernel_rfl) rfl rfl (B rfl) (freeNil rfl (E rfl rfl)) ?_
 refine AWP.take (i := 4) rfl (by kernel_rfl) (by kernel_rfl) (by kernel_rfl) rfl rfl (B rfl) (freeField rfl fo_81_2 (E rfl rfl)) ?_
 refine AWP.take (i := 5) rfl (by kernel_rfl) (by kernel_rfl) (by kernel_rfl) rfl rfl (B rfl) (freeArr (j := 0) rfl ar_78 (E rfl rfl) (E rfl rfl) ⟨rfl, by decide⟩) ?_
 refine AWP.take (i := 6) rfl (by kernel_rfl) (by kernel_rfl) (by kernel_rfl) rfl rfl (B rfl) (freeField rfl fo_77_0 (E rfl rfl)) ?_
 refine AWP.take (i := 8) rfl (by kernel_rfl) (by kernel_rfl) (by kernel_rfl) rfl rfl (B rfl) (freeNil rfl (E rfl rfl)) ?_
 refine AWP.take (i := 9) rfl (by kernel_rfl) (by kernel_rfl) (by kernel_rfl) rfl rfl (B rfl) (freeField rfl fo_81_2 (E rfl rfl)) ?_
 refine AWP.take (i := 13) rfl (by kernel_rfl) (by kernel_rfl) (by kernel_rfl) rfl rfl (B rfl) (freeNil rfl (E rfl rfl)) ?_
 refine AWP.take (i := 14) rfl (by kernel_rfl) (by kernel_rfl) (by kernel_rfl) rfl rfl (B rfl) (freeField rfl fo_81_2 (E rfl rfl)) ?_
 refine AWP.one (i := 7) (by kernel_rfl) rfl ?_
 refine AWL.storeBox (i := 2) rfl rfl rfl ag_3 rfl (E rfl rfl) (E rfl rfl) rfl rfl (Nat.le_of_ble_eq_true rfl) ?_
 refine AWL.nil ?_
 refine AWP.one (i := 10) (by kernel_rfl) rfl ?_
 refine AWL.y rfl rfl (B rfl) (Yv.indexArr (j := 1) rfl ar_78 (E rfl rfl) (E rfl rfl) (fun hg => ⟨rfl, by decide⟩)) ?_
 refine AWL.nil ?_
 refine AWP.one (i := 11) (by kernel_rfl) rfl ?_
 refine AWL.y rfl rfl (B rfl) (Yv.fieldBox rfl fo_77_0 (E rfl rfl)) ?_
 refine AWL.nil ?_
 refine AWP.one (i := 12) (by kernel_rfl) rfl ?_
 refine AWL.storeBox (i := 2) rfl rfl rfl ag_3 rfl (E rfl rfl) (E rfl rfl) rfl rfl (Nat.le_of_ble_eq_true rfl) ?_
 refine AWL.nil ?_
 refine AWP.one (i := 15) (by kernel_rfl) rfl ?_
 refine AWL.y rfl rfl (B rfl) (Yv.indexArr (j := 2) rfl ar_78 (E rfl rfl) (E rfl rfl) (fun hg => ⟨rfl, by decide⟩)) ?_
 refine AWL.nil ?_
 refine AWP.one (i := 16) (by kernel_rfl) rfl ?_
 refine AWL.y rfl rfl (B rfl) (Yv.fieldBox rfl fo_77_0 (E rfl rfl)) ?_
 refine AWL.nil ?_
 refine AWP.one (i := 17) (by kernel_rfl) rfl ?_
 refine AWL.storeBox (i := 2) rfl rfl rfl ag_3 rfl (E rfl rfl) (E rfl rfl) rfl rfl (Nat.le_of_ble_eq_true rfl) ?_
 refine AWL.nil ?_
 refine AWP.done (by kernel_rfl) ?_
 refine AW.rseq ?_
 refine AWL.y rfl rfl (B rfl) (Yv.move rfl (E rfl rfl)) ?_
 refine AWL.y rfl rfl (B rfl) (Yv.assign rfl (E rfl rfl)) ?_
 refine AWL.nil ?_
 refine AW.ret (retI (.tmp rfl .nil) ?_)
 exact ⟨_, rfl⟩

def ms0 (e : Wd64) : Ms := ⟨updR (fun _ => 0#64) 4 139637976727552#64, fun _ => 0#64, false, false, false, false, false, e, 0, 0, 0⟩
theorem remember22c (l0 : List Seg) (hl : l0.length ≤ 1048576) (hd : ∀ s ∈ l0, s.data.length ≤ 1048576) : ACalls Tryz.prog 22 [.sl 4 (l0.flatMap segC)] [] (fun t S => ∃ (ok : Bool) (p : Option Addr), (ok = true ↔ MayP l0) ∧ t = .tup [.v (.pointer p), bv ok] ∧ (ok = true → ∃ (mm pg : Nat) (l : List Seg) (pgs : List Pg), p = some ⟨mm, 0, none⟩ ∧ l.Perm l0 ∧ Srt l ∧ PgOk pgs ∧ getM pgs = memF l0 ∧ S = (Ent.box mm 102 [.sl 4 (l.flatMap seg0), mapT pg] :: memE 95 pg pgs))) := by
 refine (remember22 l0 hl hd).mono fun t S h => ?_
 rcases h with ⟨h1, h2⟩ | ⟨h1, mm, pg, l, pgs, h2, h3, h4, h5, h6, h7⟩
 ·exact ⟨false, none, ⟨fun h => (by cases h), fun h => absurd h h1⟩, h2, fun h => (by cases h)⟩
 exact ⟨true, _, ⟨fun _ => h1, fun _ => rfl⟩, h6, fun _ => ⟨mm, pg, l, pgs, rfl, h2, h3, h4, h5, h7⟩⟩
set_option maxHeartbeats 2000000 in
theorem New5 (e : Wd64) (l0 : List Seg) (hl : l0.length ≤ 1048576) (hd : ∀ s ∈ l0, s.data.length ≤ 1048576) (q : Option Addr) :
    ACalls Tryz.prog 5 [.agg [zw e, .sl 4 (l0.flatMap segC)], .v (.pointer q)] [] (fun t S => (q.isNone = true ∧ t = .tup [.v (.pointer none), zi 1]) ∨ (q.isNone = false ∧ ¬ MayP l0 ∧ t = .tup [.v (.pointer none), zi 210]) ∨ (q.isNone = false ∧ MayP l0 ∧ ∃ (mb mm pg kn : Nat) (l : List Seg) (pgs : List Pg), l.Perm l0 ∧ Srt l ∧ PgOk pgs ∧ getM pgs = memF l0 ∧ t = .tup [.v (.pointer (some ⟨mb, 0, none⟩)), zi 0] ∧ S = (.box mb 73 (mcC (ms0 e) (.v (.pointer (some ⟨mm, 0, none⟩))) (.v (.pointer q)) (mapT kn)) :: .map kn [] :: Ent.box mm 102 [.sl 4 (l.flatMap seg0), mapT pg] :: memE 95 pg pgs))) := by
 refine ACalls.intro Tryz.func5 rfl Tryz.ntmps5 (Nat.le_of_ble_eq_true rfl) rfl fun X w0 => ?_
 refine AW.rseq ?_
 refine AWL.boxOp rfl rfl (B rfl) rfl (E rfl rfl) rfl (fun b2 => ?_)
 refine AWL.y rfl rfl (B rfl) (Yv.assign rfl (E rfl rfl)) ?_
 refine AWL.y rfl rfl (B rfl) (Yv.assign rfl (E rfl rfl)) ?_
 refine AWL.nil ?_
 refine AW.seq ?_
 refine AW.rseq ?_
 refine AWL.y rfl rfl (B rfl) (Yv.move rfl (E rfl rfl)) ?_
 refine AWL.y rfl rfl (B rfl) (Yv.eqlNilP rfl pn_34 (E rfl rfl)) ?_
 refine AWL.nil ?_
 refine AW.cond rfl (fun h0t => ?_) (fun h0f => ?_)
 ·try replace h0t := of_decide_eq_true h0t
  refine AW.rseq ?_
  refine AWL.y rfl rfl (B rfl) (Yv.assign rfl (E rfl rfl)) ?_
  refine AWL.y rfl rfl (B rfl) (Yv.assign rfl (E rfl rfl)) ?_
  refine AWL.nil ?_
  refine AW.ret (retI (.tmp rfl (.tmp rfl .nil)) ?_)
  exact .inl ⟨by simpa using h0t, rfl⟩
 try replace h0f := of_decide_eq_false h0f
 refine AW.skip ?_
 refine AW.rseq ?_
 refine AWL.y rfl rfl (B rfl) (Yv.fieldBox rfl fo_25_1 (E rfl rfl)) ?_
 refine AWL.y rfl rfl (B rfl) (Yv.loadBox rfl ag_23 (i := 0) rfl (E rfl rfl) rfl) ?_
 refine AWL.callE rfl rfl (B rfl) rfl ce_22 (E rfl rfl) (evsC (E rfl rfl) evs0) (F1 := [.box b2 25 [zw e, .sl 4 (l0.flatMap segC)]]) (S1 := []) rfl (remember22c l0 hl hd) ?_
 rintro t14 S14 ⟨ok, p, hok, rfl, hrem⟩
 refine AWL.y rfl rfl (B rfl) (Yv.move rfl (E rfl rfl)) ?_
 refine AWL.y rfl rfl (B rfl) (Yv.extract rfl (E rfl rfl) rfl) ?_
 refine AWL.y rfl rfl (B rfl) (Yv.extract rfl (E rfl rfl) rfl) ?_
 refine AWL.y rfl rfl (B rfl) (Yv.assign rfl (E rfl rfl)) ?_
 refine AWL.y rfl rfl (B rfl) (Yv.assign rfl (E rfl rfl)) ?_
 refine AWL.nil ?_
 refine AW.seq ?_
 refine AW.rseq ?_
 refine AWL.y rfl rfl (B rfl) (Yv.move rfl (E rfl rfl)) ?_
 refine AWL.y rfl rfl (B rfl) (Yv.not rfl (E rfl rfl)) ?_
 refine AWL.nil ?_
 refine AW.cond rfl (fun h1t => ?_) (fun h1f => ?_)
 ·try replace h1t := of_decide_eq_true h1t
  have hno : ¬ MayP l0 := fun h => by rw [hok.2 h] at h1t; simp at h1t
  refine AW.rseq ?_
  refine AWL.y rfl rfl (B rfl) (Yv.assign rfl (E rfl rfl)) ?_
  refine AWL.y rfl rfl (B rfl) (Yv.assign rfl (E rfl rfl)) ?_
  refine AWL.nil ?_
  refine AW.ret (retI (.tmp rfl (.tmp rfl .nil)) ?_)
  exact .inr (.inl ⟨by simpa using h0f, hno, rfl⟩)
 try replace h1f := of_decide_eq_false h1f
 have hyes : ok = true := by simpa using h1f
 obtain ⟨mm, pg, l, pgs, rfl, hpm, hsr, hpo, hme, rfl⟩ := hrem hyes
 refine AW.skip ?_
 refine AW.rseq ?_
 refine AWL.y rfl rfl (B rfl) (Yv.move rfl (E rfl rfl)) ?_
 refine AWL.y rfl rfl (B rfl) (Yv.move rfl (E rfl rfl)) ?_
 refine AWL.makeMapOp rfl rfl (B rfl) rfl (fun b21 => ?_)
 refine AWL.perm (List.perm_append_singleton _ _).symm ?_
 refine AWL.y rfl rfl (B rfl) (Yv.buildS rfl sh_73 (evpC (E rfl rfl) (evpC (E rfl rfl) (evpC (E rfl rfl) evp0))) (fun _ => rfl)) ?_
 refine AWL.boxOp rfl rfl (B rfl) rfl (E rfl rfl) rfl (fun b23 => ?_)
 refine AWL.perm (List.perm_append_singleton _ _).symm ?_
 refine AWL.y rfl rfl (B rfl) (Yv.assign rfl (E rfl rfl)) ?_
 refine AWL.nil ?_
 refine AW.rseq ?_
 refine AWL.y rfl rfl (B rfl) (Yv.move rfl (E rfl rfl)) ?_
 refine AWL.y rfl rfl (B rfl) (Yv.fieldBox rfl fo_25_0 (E rfl rfl)) ?_
 refine AWL.y rfl rfl (B rfl) (Yv.loadBox rfl ag_22 (i := 2) rfl (E rfl rfl) rfl) ?_
 refine AWL.y rfl rfl (B rfl) (Yv.nilChk rfl (E rfl rfl)) ?_
 refine AWL.y rfl rfl (B rfl) (Yv.fieldBox rfl fo_73_0 (E rfl rfl)) ?_
 refine AWL.y rfl rfl (B rfl) (Yv.fieldBox rfl fo_71_3 (E rfl rfl)) ?_
 refine AWL.storeBox (i := 0) rfl rfl rfl ag_22 rfl (E rfl rfl) (E rfl rfl) rfl rfl (Nat.le_of_ble_eq_true rfl) ?_
 refine AWL.nil ?_
 refine AW.rseq ?_
 refine AWL.y rfl rfl (B rfl) (Yv.move rfl (E rfl rfl)) ?_
 refine AWL.y rfl rfl (B rfl) (Yv.nilChk rfl (E rfl rfl)) ?_
 refine AWL.y rfl rfl (B rfl) (Yv.fieldBox rfl fo_73_0 (E rfl rfl)) ?_
 refine AWL.y rfl rfl (B rfl) (Yv.fieldBox rfl fo_71_0 (E rfl rfl)) ?_
 refine AWL.y rfl rfl (B rfl) (Yv.indexArr rfl ar_69 (E rfl rfl) (E rfl rfl) (fun hg => ⟨(Int.toNat_of_nonneg (by omega)).symm, by omega⟩)) ?_
 refine AWL.storeBox (i := 0) rfl rfl rfl ag_22 rfl (E rfl rfl) (E rfl rfl) rfl rfl (Nat.le_of_ble_eq_true rfl) ?_
 refine AWL.nil ?_
 refine AW.dropAt 2 ?_
 refine AW.rseq ?_
 refine AWL.y rfl rfl (B rfl) (Yv.move rfl (E rfl rfl)) ?_
 refine AWL.y rfl rfl (B rfl) (Yv.assign rfl (E rfl rfl)) ?_
 refine AWL.y rfl rfl (B rfl) (Yv.assign rfl (E rfl rfl)) ?_
 refine AWL.nil ?_
 refine AW.ret (retI (.tmp rfl (.tmp rfl .nil)) ?_)
 exact .inr (.inr ⟨by simpa using h0f, hok.1 hyes, b23, mm, pg, b21, l, pgs, hpm, hsr, hpo, hme, rfl, rfl⟩)

end Go.Proofs.YtecpjlhbkmongaaGreat.M

namespace Go.Proofs.YtecpjlhbkmongaaGreat.M
open Go Go.RowKit

def MayN (l : List Seg) (n : Nat) : Prop := (∀ j, j < n → okS (l.getD j default)) ∧ ∀ i j, i < j → j < n → apartS (l.getD i default) (l.getD j default)
theorem MayN.zero (l : List Seg) : MayN l 0 := ⟨fun j h => absurd h (Nat.not_lt_zero _), fun i j _ h => absurd h (Nat.not_lt_zero _)⟩
theorem MayN.succ {l : List Seg} {n : Nat} (h : MayN l n) (ho : okS (l.getD n default)) (ha : ∀ i, i < n → apartS (l.getD i default) (l.getD n default)) : MayN l (n + 1) := by
 refine ⟨fun j hj => ?_, fun i j hij hj => ?_⟩
 ·rcases Nat.lt_or_ge j n with q | q
  ·exact h.1 j q
  rw [show j = n by omega]; exact ho
 rcases Nat.lt_or_ge j n with q | q
 ·exact h.2 i j hij q
 obtain rfl : j = n := by omega
 exact ha i hij
theorem ok_iff2 {s : Seg} (hd : s.data.length ≤ 1048576) : okS s ↔ ¬ ((((s.z = 0#64 ∨ s.z < wI (s.data.length : Int)) ∨ s.may < 1) ∨ 7 < s.may) ∨ 18446744073709551615#64 - s.z < s.a) := by
 rw [ok_iff hd]
 constructor <;> intro h q <;> apply h <;> rcases q with (((q | q) | q) | q) | q
 ·exact .inl (.inl (.inl (.inl q)))
 ·exact .inl (.inl (.inl (.inr q)))
 ·exact .inl (.inr q)
 ·exact .inr q
 ·exact .inl (.inl (.inr q))
 ·exact .inl (.inl (.inl (.inl q)))
 ·exact .inl (.inl (.inl (.inr q)))
 ·exact .inr q
 ·exact .inl (.inl (.inr q))
 exact .inl (.inr q)
theorem ap_iff {s t : Seg} (hs : okS s) (ht : okS t) : apartS s t ↔ ¬ (t.a < s.a + s.z ∧ s.a < t.a + t.z) := by
 have h1 := hs.2.2.1
 have h2 := ht.2.2.1
 rw [BitVec.lt_def, BitVec.lt_def, add_w (by omega), add_w (by omega)]
 unfold apartS
 omega
set_option maxHeartbeats 4000000 in
theorem May7 (l0 : List Seg) (hl : l0.length ≤ 1048576) (hd : ∀ s ∈ l0, s.data.length ≤ 1048576) :
    ACalls Tryz.prog 7 [.sl 4 (l0.flatMap segC)] [] (fun t S => ∃ b : Bool, (b = true ↔ MayP l0) ∧ t = bv b) := by
 refine ACalls.intro Tryz.func7 rfl Tryz.ntmps7 (Nat.le_of_ble_eq_true rfl) rfl fun X w0 => ?_
 refine AW.rseq ?_
 refine AWL.y rfl rfl (B rfl) (Yv.assign rfl (E rfl rfl)) ?_
 refine AWL.nil ?_
 refine AW.seq ?_
 refine AW.rseq ?_
 refine AWL.y rfl rfl (B rfl) (Yv.assign rfl (E rfl rfl)) ?_
 refine AWL.nil ?_
 refine AW.block ?_
 refine AW.loop (fun (j : Nat) => [(0, true, .sl 4 (l0.flatMap segC)), (2, true, bv false), (3, true, zi (j : Int))]) (fun (j : Nat) => []) (fun (j : Nat) => j ≤ l0.length ∧ MayN l0 j) (fun (j : Nat) => l0.length - j) 0 ?_ ?_ ?_ ?_
 ·exact ⟨Nat.zero_le _, MayN.zero l0⟩
 ·exact (Sub.cons rfl rfl (Sub.cons rfl rfl (Sub.cons rfl rfl Sub.nil)))
 ·rfl
 intro j ⟨hjl, hmn⟩
 refine AW.seq ?_
 refine AW.rseq ?_
 refine AWL.y rfl rfl (B rfl) (Yv.move rfl (E rfl rfl)) ?_
 refine AWL.y rfl rfl (B rfl) (Yv.move rfl (E rfl rfl)) ?_
 refine AWL.y rfl rfl (B rfl) (Yv.lenSl rfl so_23 (B rfl) (E rfl rfl) len_segC) ?_
 refine AWL.y rfl rfl (B rfl) (Yv.lss rfl (E rfl rfl) (E rfl rfl)) ?_
 refine AWL.nil ?_
 refine AW.cond rfl (fun h0t => ?_) (fun h0f => ?_)
 ·try replace h0t := of_decide_eq_true h0t
  have hj : j < l0.length := by omega
  have hdj := hd _ (mem_getD.2 ⟨j, hj, rfl⟩)
  refine AW.skip ?_
  refine AW.seq ?_
  refine AW.block ?_
  refine AW.rseq ?_
  refine AWL.y rfl rfl (B rfl) (Yv.move rfl (E rfl rfl)) ?_
  refine AWL.y rfl rfl (B rfl) (Yv.move rfl (E rfl rfl)) ?_
  refine AWL.y rfl rfl (B rfl) (Yv.indexSl rfl ss_23 (B rfl) (E rfl rfl) (E rfl rfl) (fun hg => ⟨rfl, (by first | omega | (simp only [len_segC, len_u8t]; omega))⟩)) ?_
  refine AWL.y rfl rfl (B rfl) (Yv.loadRpA rfl ag_29 (E rfl rfl) (fun hg => ⟨segC_get hj, rfl⟩)) ?_
  refine AWL.allocOp rfl rfl (B rfl) rfl zc_29 (fun b4 => ?_)
  refine AWL.storeBox (i := 0) rfl rfl rfl ag_29 rfl (E rfl rfl) (E rfl rfl) rfl rfl (Nat.le_of_ble_eq_true rfl) ?_
  refine AWL.nil ?_
  refine AW.seq ?_
  refine AW.rseq ?_
  refine AWL.y rfl rfl (B rfl) (Yv.fieldBox rfl fo_29_1 (E rfl rfl)) ?_
  refine AWL.y rfl rfl (B rfl) (Yv.loadBox rfl ag_22 (i := 0) rfl (E rfl rfl) rfl) ?_
  refine AWL.y rfl rfl (B rfl) (Yv.eqlW (b := 0#64) rfl (E rfl rfl) (E rfl rfl)) ?_
  refine AWL.y rfl rfl (B rfl) (Yv.move rfl (E rfl rfl)) ?_
  refine AWL.ygF rfl rfl rfl rfl (B rfl) (Yv.fieldBox rfl fo_29_3 (E rfl rfl)) ?_
  refine AWL.ygF rfl rfl rfl rfl (B rfl) (Yv.loadBox rfl ag_27 (i := 0) rfl (Eg rfl rfl id) rfl) ?_
  refine AWL.ygF rfl rfl rfl rfl (B rfl) (Yv.lenSl rfl so_27 (B rfl) (Eg rfl rfl id) len_u8t) ?_
  refine AWL.ygF rfl rfl rfl rfl (B rfl) (Yv.convW rfl Tryz.underlying3 kd_22 (Eg rfl rfl id)) ?_
  refine AWL.ygF rfl rfl rfl rfl (B rfl) (Yv.fieldBox rfl fo_29_1 (E rfl rfl)) ?_
  refine AWL.ygF rfl rfl rfl rfl (B rfl) (Yv.loadBox rfl ag_22 (i := 0) rfl (Eg rfl rfl id) rfl) ?_
  refine AWL.ygF rfl rfl rfl rfl (B rfl) (Yv.gtrW rfl (Eg rfl rfl id) (Eg rfl rfl id)) ?_
  refine AWL.y rfl rfl (B rfl) (Yv.pickOr (t := .const (.bool true)) rfl (E rfl rfl) (Eg rfl rfl id)) ?_
  refine AWL.y rfl rfl (B rfl) (Yv.move rfl (E rfl rfl)) ?_
  refine AWL.ygF rfl rfl rfl rfl (B rfl) (Yv.fieldBox rfl fo_29_2 (E rfl rfl)) ?_
  refine AWL.ygF rfl rfl rfl rfl (B rfl) (Yv.loadBox rfl ag_3 (i := 0) rfl (Eg rfl rfl id) rfl) ?_
  refine AWL.ygF rfl rfl rfl rfl (B rfl) (Yv.lss rfl (Eg rfl rfl id) (E rfl rfl)) ?_
  refine AWL.y rfl rfl (B rfl) (Yv.pickOr (t := .const (.bool true)) rfl (E rfl rfl) (Eg rfl rfl id)) ?_
  refine AWL.y rfl rfl (B rfl) (Yv.move rfl (E rfl rfl)) ?_
  refine AWL.ygF rfl rfl rfl rfl (B rfl) (Yv.fieldBox rfl fo_29_2 (E rfl rfl)) ?_
  refine AWL.ygF rfl rfl rfl rfl (B rfl) (Yv.loadBox rfl ag_3 (i := 0) rfl (Eg rfl rfl id) rfl) ?_
  refine AWL.ygF rfl rfl rfl rfl (B rfl) (Yv.gtr rfl (Eg rfl rfl id) (E rfl rfl)) ?_
  refine AWL.y rfl rfl (B rfl) (Yv.pickOr (t := .const (.bool true)) rfl (E rfl rfl) (Eg rfl rfl id)) ?_
  refine AWL.y rfl rfl (B rfl) (Yv.move rfl (E rfl rfl)) ?_
  refine AWL.ygF rfl rfl rfl rfl (B rfl) (Yv.fieldBox rfl fo_29_0 (E rfl rfl)) ?_
  refine AWL.ygF rfl rfl rfl rfl (B rfl) (Yv.loadBox rfl ag_22 (i := 0) rfl (Eg rfl rfl id) rfl) ?_
  refine AWL.ygF rfl rfl rfl rfl (B rfl) (Yv.fieldBox rfl fo_29_1 (E rfl rfl)) ?_
  refine AWL.ygF rfl rfl rfl rfl (B rfl) (Yv.loadBox rfl ag_22 (i := 0) rfl (Eg rfl rfl id) rfl) ?_
  refine AWL.ygF rfl rfl rfl rfl (B rfl) (Yv.subW (a := 18446744073709551615#64) rfl (E rfl rfl) (Eg rfl rfl id)) ?_
  refine AWL.ygF rfl rfl rfl rfl (B rfl) (Yv.gtrW rfl (Eg rfl rfl id) (Eg rfl rfl id)) ?_
  refine AWL.y rfl rfl (B rfl) (Yv.pickOr (t := .const (.bool true)) rfl (E rfl rfl) (Eg rfl rfl id)) ?_
  refine AWL.nil ?_
  refine AW.cond rfl (fun h1t => ?_) (fun h1f => ?_)
  ·try replace h1t := of_decide_eq_true h1t
   have hno : ¬ okS (l0.getD j default) := fun q => (ok_iff2 hdj).1 q (by simpa using h1t)
   refine AW.rseq ?_
   refine AWL.y rfl rfl (B rfl) (Yv.assign rfl (E rfl rfl)) ?_
   refine AWL.nil ?_
   refine AW.ret (retI (.tmp rfl .nil) ?_)
   exact ⟨false, ⟨fun h => (by cases h), fun q => absurd (q.1 j hj) hno⟩, rfl⟩
  try replace h1f := of_decide_eq_false h1f
  have hok : okS (l0.getD j default) := (ok_iff2 hdj).2 (by simpa using h1f)
  refine AW.skip ?_
  refine AW.rseq ?_
  refine AWL.y rfl rfl (B rfl) (Yv.assign rfl (E rfl rfl)) ?_
  refine AWL.nil ?_
  refine AW.block ?_
  refine AW.loop (fun (k : Nat) => [(0, true, .sl 4 (l0.flatMap segC)), (2, true, bv false), (3, true, zi (j : Int)), (4, true, .v (.pointer (some ⟨b4, 0, none⟩))), (5, true, zi (k : Int))]) (fun (k : Nat) => [.box b4 29 (segC (l0.getD j default))]) (fun (k : Nat) => k ≤ j ∧ ∀ i, i < k → apartS (l0.getD i default) (l0.getD j default)) (fun (k : Nat) => j - k) 0 ?_ ?_ ?_ ?_
  ·exact ⟨Nat.zero_le _, fun i hi => absurd hi (Nat.not_lt_zero _)⟩
  ·exact (Sub.cons rfl rfl (Sub.cons rfl rfl (Sub.cons rfl rfl (Sub.cons rfl rfl (Sub.cons rfl rfl Sub.nil)))))
  ·rfl
  intro k ⟨hkj, hap⟩
  refine AW.seq ?_
  refine AW.rseq ?_
  refine AWL.y rfl rfl (B rfl) (Yv.move rfl (E rfl rfl)) ?_
  refine AWL.y rfl rfl (B rfl) (Yv.move rfl (E rfl rfl)) ?_
  refine AWL.y rfl rfl (B rfl) (Yv.lss rfl (E rfl rfl) (E rfl rfl)) ?_
  refine AWL.nil ?_
  refine AW.cond rfl (fun h2t => ?_) (fun h2f => ?_)
  ·try replace h2t := of_decide_eq_true h2t
   have hk : k < j := by omega
   have hkk : okS (l0.getD k default) := hmn.1 k hk
   refine AW.skip ?_
   refine AW.seq ?_
   refine AW.block ?_
   refine AW.rseqQ rfl (by kernel_rfl) ?_
   refine AWQ.y rfl rfl (B rfl) (Yv.fieldBox rfl fo_29_0 (E rfl rfl)) ?_
   refine AWQ.y rfl rfl (B rfl) (Yv.loadBox rfl ag_22 (i := 0) rfl (E rfl rfl) rfl) ?_
   refine AWQ.y rfl rfl (B rfl) (Yv.move rfl (E rfl rfl)) ?_
   refine AWQ.y rfl rfl (B rfl) (Yv.move rfl (E rfl rfl)) ?_
   refine AWQ.y rfl rfl (B rfl) (Yv.indexSl (j := k) rfl ss_23 (B rfl) (E rfl rfl) (E rfl rfl) (fun hg => ⟨rfl, by rw [len_segC]; omega⟩)) ?_
   refine AWQ.y rfl rfl (B rfl) (Yv.fieldRp rfl fo_29_0 (E rfl rfl)) ?_
   refine AWQ.y rfl rfl (B rfl) (Yv.loadRp rfl ag_22 (E rfl rfl) (fun hg => segC_at0 (by omega))) ?_
   refine AWQ.y rfl rfl (B rfl) (Yv.move rfl (E rfl rfl)) ?_
   refine AWQ.y rfl rfl (B rfl) (Yv.move rfl (E rfl rfl)) ?_
   refine AWQ.y rfl rfl (B rfl) (Yv.indexSl (j := k) rfl ss_23 (B rfl) (E rfl rfl) (E rfl rfl) (fun hg => ⟨rfl, by rw [len_segC]; omega⟩)) ?_
   refine AWQ.y rfl rfl (B rfl) (Yv.fieldRp rfl fo_29_1 (E rfl rfl)) ?_
   refine AWQ.y rfl rfl (B rfl) (Yv.loadRp rfl ag_22 (E rfl rfl) (fun hg => segC_at1 (by omega))) ?_
   refine AWQ.y rfl rfl (B rfl) (Yv.addW rfl (E rfl rfl) (E rfl rfl)) ?_
   refine AWQ.y rfl rfl (B rfl) (Yv.lssW rfl (E rfl rfl) (E rfl rfl)) ?_
   refine AWQ.y rfl rfl (B rfl) (Yv.move rfl (E rfl rfl)) ?_
   refine AWQ.ygT rfl rfl rfl rfl (B rfl) (Yv.move rfl (E rfl rfl)) ?_
   refine AWQ.ygT rfl rfl rfl rfl (B rfl) (Yv.move rfl (E rfl rfl)) ?_
   refine AWQ.ygT rfl rfl rfl rfl (B rfl) (Yv.indexSl (j := k) rfl ss_23 (B rfl) (Eg rfl rfl id) (Eg rfl rfl id) (fun hg => ⟨rfl, by rw [len_segC]; omega⟩)) ?_
   refine AWQ.ygT rfl rfl rfl rfl (B rfl) (Yv.fieldRp rfl fo_29_0 (Eg rfl rfl id)) ?_
   refine AWQ.ygT rfl rfl rfl rfl (B rfl) (Yv.loadRp rfl ag_22 (Eg rfl rfl id) (fun hg => segC_at0 (by omega))) ?_
   refine AWQ.ygT rfl rfl rfl rfl (B rfl) (Yv.fieldBox rfl fo_29_0 (E rfl rfl)) ?_
   refine AWQ.ygT rfl rfl rfl rfl (B rfl) (Yv.loadBox rfl ag_22 (i := 0) rfl (Eg rfl rfl id) rfl) ?_
   refine AWQ.ygT rfl rfl rfl rfl (B rfl) (Yv.fieldBox rfl fo_29_1 (E rfl rfl)) ?_
   refine AWQ.ygT rfl rfl rfl rfl (B rfl) (Yv.loadBox rfl ag_22 (i := 0) rfl (Eg rfl rfl id) rfl) ?_
   refine AWQ.ygT rfl rfl rfl rfl (B rfl) (Yv.addW rfl (Eg rfl rfl id) (Eg rfl rfl id)) ?_
   refine AWQ.ygT rfl rfl rfl rfl (B rfl) (Yv.lssW rfl (Eg rfl rfl id) (Eg rfl rfl id)) ?_
   refine AWQ.y rfl rfl (B rfl) (Yv.pickAnd rfl (E rfl rfl) (Eg rfl rfl id)) ?_
   refine AWQ.nil ?_
   refine AW.cond rfl (fun h3t => ?_) (fun h3f => ?_)
   ·try replace h3t := of_decide_eq_true h3t
    have hno := fun q => (ap_iff hkk hok).1 q (by simpa using h3t)
    refine AW.rseq ?_
    refine AWL.y rfl rfl (B rfl) (Yv.assign rfl (E rfl rfl)) ?_
    refine AWL.nil ?_
    refine AW.ret (retI (.tmp rfl .nil) ?_)
    exact ⟨false, ⟨fun h => (by cases h), fun q => absurd (q.2 k j hk hj) hno⟩, rfl⟩
   try replace h3f := of_decide_eq_false h3f
   have hak := (ap_iff hkk hok).2 (by simpa using h3f)
   refine AW.skip ?_
   refine AW.region ?_
   refine AWL.y rfl rfl (B rfl) (Yv.move rfl (E rfl rfl)) ?_
   refine AWL.y rfl rfl (B rfl) (Yv.addN_i64 rfl (E rfl rfl) (E rfl rfl) (fun hg => by omega)) ?_
   refine AWL.y rfl rfl (B rfl) (Yv.assign rfl (E rfl rfl)) ?_
   refine AWL.nil ?_
   exact ⟨k + 1, ⟨by omega, fun i hi => (Nat.lt_succ_iff_lt_or_eq.1 hi).elim (hap i) (fun e => e ▸ hak)⟩, by omega, (Sub.cons rfl rfl (Sub.cons rfl rfl (Sub.cons rfl rfl (Sub.cons rfl rfl (Sub.cons rfl rfl Sub.nil))))), rfl⟩
  try replace h2f := of_decide_eq_false h2f
  obtain rfl : j = k := by omega
  refine AW.exit ?_
  refine AW.dropAt 0 ?_
  refine AW.region ?_
  refine AWL.y rfl rfl (B rfl) (Yv.move rfl (E rfl rfl)) ?_
  refine AWL.y rfl rfl (B rfl) (Yv.addN_i64 rfl (E rfl rfl) (E rfl rfl) (fun hg => by omega)) ?_
  refine AWL.y rfl rfl (B rfl) (Yv.assign rfl (E rfl rfl)) ?_
  refine AWL.nil ?_
  exact ⟨j + 1, ⟨by omega, hmn.succ hok hap⟩, by omega, (Sub.cons rfl rfl (Sub.cons rfl rfl (Sub.cons rfl rfl Sub.nil))), rfl⟩
 try replace h0f := of_decide_eq_false h0f
 obtain rfl : j = l0.length := by omega
 refine AW.exit ?_
 refine AW.rseq ?_
 refine AWL.y rfl rfl (B rfl) (Yv.assign rfl (E rfl rfl)) ?_
 refine AWL.nil ?_
 refine AW.ret (retI (.tmp rfl .nil) ?_)
 exact ⟨true, ⟨fun _ => hmn, fun _ => rfl⟩, rfl⟩

end Go.Proofs.YtecpjlhbkmongaaGreat.M

namespace Go.Proofs.YtecpjlhbkmongaaGreat.M
open Go Go.RowKit

def dcC (r4 rip : Wd64) (L pg kn : T) : List T := [zw 0#64, zw 0#64, zw 0#64, zw 0#64, zw r4, zw 0#64, zw 0#64, zw 0#64, zw 0#64, zw 0#64, zw 0#64, zw 0#64, zw 0#64, zw 0#64, zw 0#64, zw 0#64, zw 0#64, zw 0#64, zw 0#64, zw 0#64, zw 0#64, zw 0#64, zw 0#64, zw 0#64, zw 0#64, zw 0#64, zw 0#64, zw 0#64, zw 0#64, zw 0#64, zw 0#64, zw 0#64, bv false, bv false, bv false, bv false, bv false, zw rip, L, pg, .v (.pointer none), zi 0, zi 0, zi 0, kn]
theorem perm4 {a b c d : Ent} : List.Perm [d, a, c, b] [a, b, c, d] := ((List.perm_append_singleton d [a, c, b]).symm).trans (.cons a (.swap b c [d]))
set_option maxHeartbeats 4000000 in
theorem DNew8 (e : Wd64) (l0 : List Seg) (hl : l0.length ≤ 1048576) (hd : ∀ s ∈ l0, s.data.length ≤ 1048576) :
    ACalls Tryz.prog 8 [.agg [zw e, .sl 4 (l0.flatMap segC)], .v (.pointer none)] [] (fun t S => ∃ (b pg kn : Nat) (pgs : List Pg), t = .v (.pointer (some ⟨b, 0, none⟩)) ∧ PgOk pgs ∧ getM pgs = memF l0 ∧ S = (.box b 91 (dcC 139637976727552#64 e (.sl 4 (l0.flatMap seg0)) (mapT pg) (mapT kn)) :: memE 97 pg pgs)) := by
 refine ACalls.intro Tryz.func8 rfl Tryz.ntmps8 (Nat.le_of_ble_eq_true rfl) rfl fun X w0 => ?_
 refine AW.rseq ?_
 refine AWL.boxOp rfl rfl (B rfl) rfl (E rfl rfl) rfl (fun b2 => ?_)
 refine AWL.y rfl rfl (B rfl) (Yv.assign rfl (E rfl rfl)) ?_
 refine AWL.nil ?_
 refine AW.rseq ?_
 refine AWL.y rfl rfl (B rfl) (Yv.move rfl (E rfl rfl)) ?_
 refine AWL.makeMapOp rfl rfl (B rfl) rfl (fun b10 => ?_)
 refine AWL.makeMapOp rfl rfl (B rfl) rfl (fun b11 => ?_)
 refine AWL.y rfl rfl (B rfl) (Yv.buildS rfl sh_91 (evpC (E rfl rfl) (evpC (E rfl rfl) (evpC (E rfl rfl) evp0))) (fun _ => rfl)) ?_
 refine AWL.boxOp rfl rfl (B rfl) rfl (E rfl rfl) rfl (fun b13 => ?_)
 refine AWL.y rfl rfl (B rfl) (Yv.assign rfl (E rfl rfl)) ?_
 refine AWL.nil ?_
 refine AW.eqS (S' := [Ent.box b2 25 [zw e, .sl 4 (l0.flatMap segC)], .map b10 [], .map b11 [], Ent.box b13 91 (dcC (0#64) (0#64) (.v (.slice none 0 0)) (mapT b10) (mapT b11))]) rfl ?_
 refine AW.dropAt 2 ?_
 refine AW.rowNil 29 4 ?_
 refine AW.perm (S' := (Ent.row none 0 0 29 4 ((l0.take 0).flatMap seg0) :: Ent.box b2 25 [zw e, .sl 4 (l0.flatMap segC)] :: (Ent.box b13 91 (dcC (0#64) (0#64) (.v (.slice none 0 0)) (mapT b10) (mapT b11)) :: memE 97 b10 []))) perm4 ?_
 refine AW.seq ?_
 refine AW.rseq ?_
 refine AWL.y rfl rfl (B rfl) (Yv.assign rfl (E rfl rfl)) ?_
 refine AWL.nil ?_
 refine AW.block ?_
 refine AW.loop4 (fun (j : Nat) (A : Option Addr) (c : Nat) (p : List Pg) => [(2, true, .v (.pointer (some ⟨b2, 0, none⟩))), (4, true, .v (.pointer none)), (5, true, .v (.pointer (some ⟨b13, 0, none⟩))), (6, true, zi (j : Int))]) (fun (j : Nat) (A : Option Addr) (c : Nat) (p : List Pg) => (Ent.row A j c 29 4 ((l0.take j).flatMap seg0) :: Ent.box b2 25 [zw e, .sl 4 (l0.flatMap segC)] :: (Ent.box b13 91 (dcC (0#64) (0#64) (.v (.slice A j c)) (mapT b10) (mapT b11)) :: memE 97 b10 p))) (fun (j : Nat) (A : Option Addr) (c : Nat) (p : List Pg) => j ≤ l0.length ∧ PgOk p ∧ getM p = memN l0 j) (fun (j : Nat) (A : Option Addr) (c : Nat) (p : List Pg) => l0.length - j) 0 none 0 ([]) ?_ ?_ ?_ ?_
 ·exact ⟨Nat.zero_le _, fun j hj => absurd hj (Nat.not_lt_zero _), rfl⟩
 ·exact (Sub.cons rfl rfl (Sub.cons rfl rfl (Sub.cons rfl rfl (Sub.cons rfl rfl Sub.nil))))
 ·rfl
 intro j A c p ⟨hjl, hpo, hme⟩
 refine AW.seq ?_
 refine AW.rseq ?_
 refine AWL.y rfl rfl (B rfl) (Yv.move rfl (E rfl rfl)) ?_
 refine AWL.y rfl rfl (B rfl) (Yv.fieldBox rfl fo_25_1 (E rfl rfl)) ?_
 refine AWL.y rfl rfl (B rfl) (Yv.loadBox rfl ag_23 (i := 1) rfl (E rfl rfl) rfl) ?_
 refine AWL.y rfl rfl (B rfl) (Yv.lenSl rfl so_23 (B rfl) (E rfl rfl) len_segC) ?_
 refine AWL.y rfl rfl (B rfl) (Yv.lss rfl (E rfl rfl) (E rfl rfl)) ?_
 refine AWL.nil ?_
 refine AW.cond rfl (fun h0t => ?_) (fun h0f => ?_)
 ·try replace h0t := of_decide_eq_true h0t
  have hj : j < l0.length := by omega
  have hdj := hd _ (mem_getD.2 ⟨j, hj, rfl⟩)
  refine AW.skip ?_
  refine AW.seq ?_
  refine AW.block ?_
  refine AW.rseq ?_
  refine AWL.y rfl rfl (B rfl) (Yv.fieldBox rfl fo_25_1 (E rfl rfl)) ?_
  refine AWL.y rfl rfl (B rfl) (Yv.loadBox rfl ag_23 (i := 1) rfl (E rfl rfl) rfl) ?_
  refine AWL.y rfl rfl (B rfl) (Yv.move rfl (E rfl rfl)) ?_
  refine AWL.y rfl rfl (B rfl) (Yv.indexSl (j := j) rfl ss_23 (B rfl) (E rfl rfl) (E rfl rfl) (fun hg => ⟨rfl, by rw [len_segC]; omega⟩)) ?_
  refine AWL.y rfl rfl (B rfl) (Yv.loadRpA rfl ag_29 (E rfl rfl) (fun hg => ⟨segC_get hj, rfl⟩)) ?_
  refine AWL.allocOp rfl rfl (B rfl) rfl zc_29 (fun b7 => ?_)
  refine AWL.perm (List.perm_append_singleton _ _).symm ?_
  refine AWL.storeBox (i := 0) rfl rfl rfl ag_29 rfl (E rfl rfl) (E rfl rfl) rfl rfl (Nat.le_of_ble_eq_true rfl) ?_
  refine AWL.nil ?_
  refine AW.mid (α := Option Addr × Nat) (fun q => [(2, true, .v (.pointer (some ⟨b2, 0, none⟩))), (4, true, .v (.pointer none)), (5, true, .v (.pointer (some ⟨b13, 0, none⟩))), (6, true, zi (j : Int)), (7, true, .v (.pointer (some ⟨b7, 0, none⟩)))]) (fun q => Ent.box b7 29 (segC (l0.getD j default)) :: (Ent.row q.1 (j + 1) q.2 29 4 ((l0.take (j + 1)).flatMap seg0) :: Ent.box b2 25 [zw e, .sl 4 (l0.flatMap segC)] :: (Ent.box b13 91 (dcC (0#64) (0#64) (.v (.slice q.1 (j + 1) q.2)) (mapT b10) (mapT b11)) :: memE 97 b10 p))) (fun _ => True) ?_ ?_
  ·refine AW.regionH (HeldCs [(b7, 0, .int .u64 ((l0.getD j default).a.toNat : Int)), (b7, 1, .int .u64 ((l0.getD j default).z.toNat : Int)), (b7, 2, .int .i64 (l0.getD j default).may)]) rfl (tells_cs (tcB 0 rfl rfl pinV (tcB 0 rfl rfl pinV (tcB 0 rfl rfl pinV tc0)))) ?_
   refine AWH.take (i := 0) rfl (by kernel_rfl) (by kernel_rfl) (by kernel_rfl) rfl rfl (B rfl) (heldAll (freeMove rfl (E rfl rfl))) ?_
   refine AWH.take (i := 1) rfl (by kernel_rfl) (by kernel_rfl) (by kernel_rfl) rfl rfl (B rfl) (heldAll (freeMove rfl (E rfl rfl))) ?_
   refine AWH.take (i := 2) rfl (by kernel_rfl) (by kernel_rfl) (by kernel_rfl) rfl rfl (B rfl) (heldAll (freeNil rfl (E rfl rfl))) ?_
   refine AWH.take (i := 3) rfl (by kernel_rfl) (by kernel_rfl) (by kernel_rfl) rfl rfl (B rfl) (heldAll (freeField rfl fo_91_1 (E rfl rfl))) ?_
   refine AWH.take (i := 5) rfl (by kernel_rfl) (by kernel_rfl) (by kernel_rfl) rfl rfl (B rfl) (heldAll (freeField rfl fo_29_0 (E rfl rfl))) ?_
   refine AWH.take (i := 6) rfl (by kernel_rfl) (by kernel_rfl) (by kernel_rfl) rfl rfl (B rfl) (heldB (r := zw (l0.getD j default).a) 0 rfl ag_22 (E rfl rfl) rfl (fun _ _ => .v _)) ?_
   refine AWH.take (i := 7) rfl (by kernel_rfl) (by kernel_rfl) (by kernel_rfl) rfl rfl (B rfl) (heldAll (freeField rfl fo_29_1 (E rfl rfl))) ?_
   refine AWH.take (i := 8) rfl (by kernel_rfl) (by kernel_rfl) (by kernel_rfl) rfl rfl (B rfl) (heldB (r := zw (l0.getD j default).z) 1 rfl ag_22 (E rfl rfl) rfl (fun _ _ => .v _)) ?_
   refine AWH.take (i := 9) rfl (by kernel_rfl) (by kernel_rfl) (by kernel_rfl) rfl rfl (B rfl) (heldAll (freeField rfl fo_29_2 (E rfl rfl))) ?_
   refine AWH.take (i := 10) rfl (by kernel_rfl) (by kernel_rfl) (by kernel_rfl) rfl rfl (B rfl) (heldB (r := zi (l0.getD j default).may) 2 rfl ag_3 (E rfl rfl) rfl (fun _ _ => .v _)) ?_
   refine AWH.two (i := 4) (j := 11) (by kernel_rfl) rfl rfl ?_ ?_
   ·refine AWL.y rfl rfl (B rfl) (Yv.loadBox rfl ag_23 (i := 3) rfl (E rfl rfl) rfl) ?_
    refine AWL.nil (kpH (tcB 0 rfl rfl pinV (tcB 0 rfl rfl pinV (tcB 0 rfl rfl pinV tc0))) ?_)
    refine AWH.one (i := 11) (by kernel_rfl) rfl ?_
    refine AWL.y rfl rfl (B rfl) (Yv.buildS rfl sh_29 (evpC (E rfl rfl) (evpC (E rfl rfl) (evpC (E rfl rfl) evp0))) (fun _ => rfl)) ?_
    refine AWL.nil (kpH (tcB 0 rfl rfl pinV (tcB 0 rfl rfl pinV (tcB 0 rfl rfl pinV tc0))) ?_)
    refine AWH.one (i := 12) (by kernel_rfl) rfl ?_
    refine AWL.buildSliceE rfl rfl (B rfl) rfl el_23 (B rfl) rfl (evsC (E rfl rfl) evs0) (Nat.le_of_ble_eq_true rfl) rfl rfl ?_
    refine AWL.nil (kpH (tcB 0 rfl rfl pinV (tcB 0 rfl rfl pinV (tcB 0 rfl rfl pinV tc0))) ?_)
    refine AWH.one (i := 13) (by kernel_rfl) rfl ?_
    refine AWL.appendRow (i := 1) rfl rfl (B rfl) rfl el_23 (B rfl) rfl (E rfl rfl) (SrcT.sl so_23 (B rfl) (E rfl rfl) rfl) (by unfold maxLen; omega) (by omega) (fun A39 c39 => ?_)
    refine AWL.nil (kpH (tcB 0 rfl rfl pinV (tcB 0 rfl rfl pinV (tcB 0 rfl rfl pinV tc0))) ?_)
    refine AWH.one (i := 14) (by kernel_rfl) rfl ?_
    refine AWL.y rfl rfl (B rfl) (Yv.nilChk rfl (E rfl rfl)) ?_
    refine AWL.nil (kpH (tcB 0 rfl rfl pinV (tcB 0 rfl rfl pinV (tcB 0 rfl rfl pinV tc0))) ?_)
    refine AWH.one (i := 15) (by kernel_rfl) rfl ?_
    refine AWL.y rfl rfl (B rfl) (Yv.fieldBox rfl fo_91_1 (E rfl rfl)) ?_
    refine AWL.nil (kpH (tcB 0 rfl rfl pinV (tcB 0 rfl rfl pinV (tcB 0 rfl rfl pinV tc0))) ?_)
    refine AWH.one (i := 16) (by kernel_rfl) rfl ?_
    refine AWL.storeBox (i := 3) rfl rfl rfl ag_23 rfl (E rfl rfl) (E rfl rfl) rfl rfl (Nat.le_of_ble_eq_true rfl) ?_
    refine AWL.nil (kpH (tcB 0 rfl rfl pinV (tcB 0 rfl rfl pinV (tcB 0 rfl rfl pinV tc0))) ?_)
    refine AWH.done (by kernel_rfl) ?_
    exact ⟨(A39, c39), trivial, (Sub.cons rfl rfl (Sub.cons rfl rfl (Sub.cons rfl rfl (Sub.cons rfl rfl (Sub.cons rfl rfl Sub.nil))))), by rw [← take_seg hj]; rfl⟩
   refine AWL.y rfl rfl (B rfl) (Yv.buildS rfl sh_29 (evpC (E rfl rfl) (evpC (E rfl rfl) (evpC (E rfl rfl) evp0))) (fun _ => rfl)) ?_
   refine AWL.nil (kpH (tcB 0 rfl rfl pinV (tcB 0 rfl rfl pinV (tcB 0 rfl rfl pinV tc0))) ?_)
   refine AWH.two (i := 4) (j := 12) (by kernel_rfl) rfl rfl ?_ ?_
   ·refine AWL.y rfl rfl (B rfl) (Yv.loadBox rfl ag_23 (i := 3) rfl (E rfl rfl) rfl) ?_
    refine AWL.nil (kpH (tcB 0 rfl rfl pinV (tcB 0 rfl rfl pinV (tcB 0 rfl rfl pinV tc0))) ?_)
    refine AWH.one (i := 12) (by kernel_rfl) rfl ?_
    refine AWL.buildSliceE rfl rfl (B rfl) rfl el_23 (B rfl) rfl (evsC (E rfl rfl) evs0) (Nat.le_of_ble_eq_true rfl) rfl rfl ?_
    refine AWL.nil (kpH (tcB 0 rfl rfl pinV (tcB 0 rfl rfl pinV (tcB 0 rfl rfl pinV tc0))) ?_)
    refine AWH.one (i := 13) (by kernel_rfl) rfl ?_
    refine AWL.appendRow (i := 1) rfl rfl (B rfl) rfl el_23 (B rfl) rfl (E rfl rfl) (SrcT.sl so_23 (B rfl) (E rfl rfl) rfl) (by unfold maxLen; omega) (by omega) (fun A39 c39 => ?_)
    refine AWL.nil (kpH (tcB 0 rfl rfl pinV (tcB 0 rfl rfl pinV (tcB 0 rfl rfl pinV tc0))) ?_)
    refine AWH.one (i := 14) (by kernel_rfl) rfl ?_
    refine AWL.y rfl rfl (B rfl) (Yv.nilChk rfl (E rfl rfl)) ?_
    refine AWL.nil (kpH (tcB 0 rfl rfl pinV (tcB 0 rfl rfl pinV (tcB 0 rfl rfl pinV tc0))) ?_)
    refine AWH.one (i := 15) (by kernel_rfl) rfl ?_
    refine AWL.y rfl rfl (B rfl) (Yv.fieldBox rfl fo_91_1 (E rfl rfl)) ?_
    refine AWL.nil (kpH (tcB 0 rfl rfl pinV (tcB 0 rfl rfl pinV (tcB 0 rfl rfl pinV tc0))) ?_)
    refine AWH.one (i := 16) (by kernel_rfl) rfl ?_
    refine AWL.storeBox (i := 3) rfl rfl rfl ag_23 rfl (E rfl rfl) (E rfl rfl) rfl rfl (Nat.le_of_ble_eq_true rfl) ?_
    refine AWL.nil (kpH (tcB 0 rfl rfl pinV (tcB 0 rfl rfl pinV (tcB 0 rfl rfl pinV tc0))) ?_)
    refine AWH.done (by kernel_rfl) ?_
    exact ⟨(A39, c39), trivial, (Sub.cons rfl rfl (Sub.cons rfl rfl (Sub.cons rfl rfl (Sub.cons rfl rfl (Sub.cons rfl rfl Sub.nil))))), by rw [← take_seg hj]; rfl⟩
   refine AWL.buildSliceE rfl rfl (B rfl) rfl el_23 (B rfl) rfl (evsC (E rfl rfl) evs0) (Nat.le_of_ble_eq_true rfl) rfl rfl ?_
   refine AWL.nil (kpH (tcB 0 rfl rfl pinV (tcB 0 rfl rfl pinV (tcB 0 rfl rfl pinV tc0))) ?_)
   refine AWH.one (i := 4) (by kernel_rfl) rfl ?_
   refine AWL.y rfl rfl (B rfl) (Yv.loadBox rfl ag_23 (i := 3) rfl (E rfl rfl) rfl) ?_
   refine AWL.nil (kpH (tcB 0 rfl rfl pinV (tcB 0 rfl rfl pinV (tcB 0 rfl rfl pinV tc0))) ?_)
   refine AWH.one (i := 13) (by kernel_rfl) rfl ?_
   refine AWL.appendRow (i := 1) rfl rfl (B rfl) rfl el_23 (B rfl) rfl (E rfl rfl) (SrcT.sl so_23 (B rfl) (E rfl rfl) rfl) (by unfold maxLen; omega) (by omega) (fun A39 c39 => ?_)
   refine AWL.nil (kpH (tcB 0 rfl rfl pinV (tcB 0 rfl rfl pinV (tcB 0 rfl rfl pinV tc0))) ?_)
   refine AWH.one (i := 14) (by kernel_rfl) rfl ?_
   refine AWL.y rfl rfl (B rfl) (Yv.nilChk rfl (E rfl rfl)) ?_
   refine AWL.nil (kpH (tcB 0 rfl rfl pinV (tcB 0 rfl rfl pinV (tcB 0 rfl rfl pinV tc0))) ?_)
   refine AWH.one (i := 15) (by kernel_rfl) rfl ?_
   refine AWL.y rfl rfl (B rfl) (Yv.fieldBox rfl fo_91_1 (E rfl rfl)) ?_
   refine AWL.nil (kpH (tcB 0 rfl rfl pinV (tcB 0 rfl rfl pinV (tcB 0 rfl rfl pinV tc0))) ?_)
   refine AWH.one (i := 16) (by kernel_rfl) rfl ?_
   refine AWL.storeBox (i := 3) rfl rfl rfl ag_23 rfl (E rfl rfl) (E rfl rfl) rfl rfl (Nat.le_of_ble_eq_true rfl) ?_
   refine AWL.nil (kpH (tcB 0 rfl rfl pinV (tcB 0 rfl rfl pinV (tcB 0 rfl rfl pinV tc0))) ?_)
   refine AWH.done (by kernel_rfl) ?_
   exact ⟨(A39, c39), trivial, (Sub.cons rfl rfl (Sub.cons rfl rfl (Sub.cons rfl rfl (Sub.cons rfl rfl (Sub.cons rfl rfl Sub.nil))))), by rw [← take_seg hj]; rfl⟩
  rintro ⟨A39, c39⟩ hmid
  refine AW.rseq ?_
  refine AWL.y rfl rfl (B rfl) (Yv.assign rfl (E rfl rfl)) ?_
  refine AWL.nil ?_
  refine AW.block ?_
  refine AW.loop4 (fun (k : Nat) (A : Option Addr) (c : Nat) (p : List Pg) => [(2, true, .v (.pointer (some ⟨b2, 0, none⟩))), (4, true, .v (.pointer none)), (5, true, .v (.pointer (some ⟨b13, 0, none⟩))), (6, true, zi (j : Int)), (7, true, .v (.pointer (some ⟨b7, 0, none⟩))), (8, true, zi (k : Int))]) (fun (k : Nat) (A : Option Addr) (c : Nat) (p : List Pg) => (Ent.box b7 29 (segC (l0.getD j default)) :: (Ent.row A (j + 1) c 29 4 ((l0.take (j + 1)).flatMap seg0) :: Ent.box b2 25 [zw e, .sl 4 (l0.flatMap segC)] :: (Ent.box b13 91 (dcC (0#64) (0#64) (.v (.slice A (j + 1) c)) (mapT b10) (mapT b11)) :: memE 97 b10 p)))) (fun (k : Nat) (A : Option Addr) (c : Nat) (p : List Pg) => k ≤ (l0.getD j default).data.length ∧ PgOk p ∧ getM p = putN (memN l0 j) (l0.getD j default).a (l0.getD j default).data k) (fun (k : Nat) (A : Option Addr) (c : Nat) (p : List Pg) => (l0.getD j default).data.length - k) 0 A39 c39 p ?_ ?_ ?_ ?_
  ·exact ⟨Nat.zero_le _, hpo, hme⟩
  ·exact (Sub.cons rfl rfl (Sub.cons rfl rfl (Sub.cons rfl rfl (Sub.cons rfl rfl (Sub.cons rfl rfl (Sub.cons rfl rfl Sub.nil))))))
  ·rfl
  intro k A c p ⟨hkl, hpo, hme⟩
  refine AW.seq ?_
  refine AW.rseq ?_
  refine AWL.y rfl rfl (B rfl) (Yv.move rfl (E rfl rfl)) ?_
  refine AWL.y rfl rfl (B rfl) (Yv.fieldBox rfl fo_29_3 (E rfl rfl)) ?_
  refine AWL.y rfl rfl (B rfl) (Yv.loadBox rfl ag_27 (i := 0) rfl (E rfl rfl) rfl) ?_
  refine AWL.y rfl rfl (B rfl) (Yv.lenSl rfl so_27 (B rfl) (E rfl rfl) len_u8t) ?_
  refine AWL.y rfl rfl (B rfl) (Yv.lss rfl (E rfl rfl) (E rfl rfl)) ?_
  refine AWL.nil ?_
  refine AW.cond rfl (fun h1t => ?_) (fun h1f => ?_)
  ·try replace h1t := of_decide_eq_true h1t
   have hk : k < (l0.getD j default).data.length := by omega
   refine AW.skip ?_
   refine AW.seq ?_
   refine AW.block ?_
   refine AW.regionP rfl ?_
   refine AWP.phase [true, true, true, true, true, true, true, true, true, true, true] 1 rfl (by kernel_rfl) (by kernel_rfl) ?_
   refine AWQ.y rfl rfl (B rfl) (Yv.move rfl (E rfl rfl)) ?_
   refine AWQ.y rfl rfl (B rfl) (Yv.fieldBox rfl fo_29_0 (E rfl rfl)) ?_
   refine AWQ.y rfl rfl (B rfl) (Yv.loadBox rfl ag_22 (i := 0) rfl (E rfl rfl) rfl) ?_
   refine AWQ.y rfl rfl (B rfl) (Yv.move rfl (E rfl rfl)) ?_
   refine AWQ.y rfl rfl (B rfl) (Yv.convW rfl Tryz.underlying3 kd_22 (E rfl rfl)) ?_
   refine AWQ.y rfl rfl (B rfl) (Yv.addW rfl (E rfl rfl) (E rfl rfl)) ?_
   refine AWQ.y rfl rfl (B rfl) (Yv.fieldBox rfl fo_29_3 (E rfl rfl)) ?_
   refine AWQ.y rfl rfl (B rfl) (Yv.loadBox rfl ag_27 (i := 0) rfl (E rfl rfl) rfl) ?_
   refine AWQ.y rfl rfl (B rfl) (Yv.move rfl (E rfl rfl)) ?_
   refine AWQ.y rfl rfl (B rfl) (Yv.indexSl (j := k) rfl ss_27 (B rfl) (E rfl rfl) (E rfl rfl) (fun hg => ⟨rfl, by rw [len_u8t]; omega⟩)) ?_
   refine AWQ.y rfl rfl (B rfl) (Yv.loadRp rfl ag_5 (E rfl rfl) (fun hg => u8_gett hk)) ?_
   refine AWQ.nil ?_
   refine AWP.one (i := 11) (by kernel_rfl) rfl ?_
   refine AWL.callE rfl rfl (B rfl) rfl ce_25 (E rfl rfl) (evsC (E rfl rfl) (evsC (E rfl rfl) (evsC (E rfl rfl) evs0))) (F1 := [Ent.box b7 29 (segC (l0.getD j default)), Ent.row A (j + 1) c 29 4 ((l0.take (j + 1)).flatMap seg0), Ent.box b2 25 [zw e, .sl 4 (l0.flatMap segC)]]) (S1 := (Ent.box b13 91 (dcC (0#64) (0#64) (.v (.slice A (j + 1) c)) (mapT b10) (mapT b11)) :: memE 97 b10 p)) rfl (Dput25 b13 b10 _ rfl p hpo _ _) ?_
   rintro t60 S60 ⟨rfl, p2, rfl, hpo2, hm2⟩
   refine AWL.nil ?_
   refine AWP.done (by kernel_rfl) ?_
   refine AW.region ?_
   refine AWL.y rfl rfl (B rfl) (Yv.move rfl (E rfl rfl)) ?_
   refine AWL.y rfl rfl (B rfl) (Yv.addN_i64 rfl (E rfl rfl) (E rfl rfl) (fun hg => by omega)) ?_
   refine AWL.y rfl rfl (B rfl) (Yv.assign rfl (E rfl rfl)) ?_
   refine AWL.nil ?_
   exact ⟨k + 1, A, c, p2, ⟨by omega, hpo2, hm2.trans (by rw [hme]; rfl)⟩, by omega, (Sub.cons rfl rfl (Sub.cons rfl rfl (Sub.cons rfl rfl (Sub.cons rfl rfl (Sub.cons rfl rfl (Sub.cons rfl rfl Sub.nil)))))), rfl⟩
  try replace h1f := of_decide_eq_false h1f
  obtain rfl : k = (l0.getD j default).data.length := by omega
  refine AW.exit ?_
  refine AW.dropAt 0 ?_
  refine AW.region ?_
  refine AWL.y rfl rfl (B rfl) (Yv.move rfl (E rfl rfl)) ?_
  refine AWL.y rfl rfl (B rfl) (Yv.addN_i64 rfl (E rfl rfl) (E rfl rfl) (fun hg => by omega)) ?_
  refine AWL.y rfl rfl (B rfl) (Yv.assign rfl (E rfl rfl)) ?_
  refine AWL.nil ?_
  exact ⟨j + 1, A, c, p, ⟨by omega, hpo, hme⟩, by omega, (Sub.cons rfl rfl (Sub.cons rfl rfl (Sub.cons rfl rfl (Sub.cons rfl rfl Sub.nil)))), rfl⟩
 try replace h0f := of_decide_eq_false h0f
 obtain rfl : j = l0.length := by omega
 rw [List.take_length]
 refine AW.exit ?_
 refine AW.rseq ?_
 refine AWL.y rfl rfl (B rfl) (Yv.move rfl (E rfl rfl)) ?_
 refine AWL.y rfl rfl (B rfl) (Yv.nilChk rfl (E rfl rfl)) ?_
 refine AWL.y rfl rfl (B rfl) (Yv.fieldBox rfl fo_91_0 (E rfl rfl)) ?_
 refine AWL.y rfl rfl (B rfl) (Yv.fieldBox rfl fo_89_0 (E rfl rfl)) ?_
 refine AWL.y rfl rfl (B rfl) (Yv.indexArr (j := 4) rfl ar_69 (E rfl rfl) (E rfl rfl) (fun hg => ⟨rfl, by decide⟩)) ?_
 refine AWL.storeBox (i := 2) rfl rfl rfl ag_22 rfl (E rfl rfl) (E rfl rfl) rfl rfl (Nat.le_of_ble_eq_true rfl) ?_
 refine AWL.nil ?_
 refine AW.eqS (S' := Ent.row A l0.length c 29 4 (l0.flatMap seg0) :: Ent.box b2 25 [zw e, .sl 4 (l0.flatMap segC)] :: Ent.box b13 91 (dcC (139637976727552#64) (0#64) (.v (.slice A l0.length c)) (mapT b10) (mapT b11)) :: memE 97 b10 p) rfl ?_
 refine AW.rseq ?_
 refine AWL.y rfl rfl (B rfl) (Yv.move rfl (E rfl rfl)) ?_
 refine AWL.y rfl rfl (B rfl) (Yv.fieldBox rfl fo_25_0 (E rfl rfl)) ?_
 refine AWL.y rfl rfl (B rfl) (Yv.loadBox rfl ag_22 (i := 1) rfl (E rfl rfl) rfl) ?_
 refine AWL.y rfl rfl (B rfl) (Yv.nilChk rfl (E rfl rfl)) ?_
 refine AWL.y rfl rfl (B rfl) (Yv.fieldBox rfl fo_91_0 (E rfl rfl)) ?_
 refine AWL.y rfl rfl (B rfl) (Yv.fieldBox rfl fo_89_3 (E rfl rfl)) ?_
 refine AWL.storeBox (i := 2) rfl rfl rfl ag_22 rfl (E rfl rfl) (E rfl rfl) rfl rfl (Nat.le_of_ble_eq_true rfl) ?_
 refine AWL.nil ?_
 refine AW.freezeCell 0 1 38 rfl (B rfl) rfl rfl ?_
 refine AW.dropAt 0 ?_
 refine AW.rseq ?_
 refine AWL.y rfl rfl (B rfl) (Yv.move rfl (E rfl rfl)) ?_
 refine AWL.y rfl rfl (B rfl) (Yv.assign rfl (E rfl rfl)) ?_
 refine AWL.nil ?_
 refine AW.ret (retI (.tmp rfl .nil) ?_)
 exact ⟨b13, b10, b11, p, rfl, hpo, hme, rfl⟩

end Go.Proofs.YtecpjlhbkmongaaGreat.M

namespace Go.Proofs.YtecpjlhbkmongaaGreat.M
open Go Go.RowKit

def thereP (l : List Seg) (a : Wd64) (n : Nat) : Prop := a.toNat + n ≤ 18446744073709551616 ∧ ∀ j, j < n → okB l 0 (a.toNat + j)
theorem mayA_0 (x : Int) : mayA x 0 = true := by
 unfold mayA
 rw [decide_eq_true_eq]
 unfold bitsOf
 simp
 rfl
theorem there_in {s : Seg} {b : Wd64} : inS s b.toNat ↔ s.a ≤ b ∧ b - s.a < s.z := by
 unfold inS
 rw [BitVec.le_def, BitVec.lt_def]
 constructor
 ·rintro ⟨h1, h2⟩
  exact ⟨h1, by rw [sub_w h1]; omega⟩
 rintro ⟨h1, h2⟩
 rw [sub_w h1] at h2
 exact ⟨h1, by omega⟩
section
variable {l : List Seg} {a n g : Wd64} {j : Nat}
theorem there_0 (h : n = 0#64) : thereP l a n.toNat := by
 subst h
 exact ⟨by have := a.isLt; show a.toNat + 0 ≤ _; omega, fun j hj => absurd hj (Nat.not_lt_zero _)⟩
theorem there_m (h : ¬ n = 0#64) : n.toNat ≠ 0 ∧ (18446744073709551615#64 - (n - 1#64)).toNat = 18446744073709551616 - n.toNat := by
 have h0 : n.toNat ≠ 0 := fun q => h (BitVec.eq_of_toNat_eq q)
 have h1 : (n - 1#64).toNat = n.toNat - 1 := sub_w (by show 1 ≤ n.toNat; omega)
 have := n.isLt
 refine ⟨h0, ?_⟩
 rw [sub_w (by rw [h1]; show n.toNat - 1 ≤ 18446744073709551615; omega), h1]
 show 18446744073709551615 - (n.toNat - 1) = _
 omega
theorem there_far (h : ¬ n = 0#64) (h1 : 18446744073709551615#64 - (n - 1#64) < a) : ¬ thereP l a n.toNat := by
 rintro ⟨q, _⟩
 obtain ⟨e1, e2⟩ := there_m h
 rw [BitVec.lt_def, e2] at h1
 omega
theorem there_r (h : ¬ n = 0#64) (h1 : ¬ 18446744073709551615#64 - (n - 1#64) < a) : a.toNat + n.toNat ≤ 18446744073709551616 := by
 obtain ⟨e1, e2⟩ := there_m h
 rw [BitVec.lt_def, e2] at h1
 have := n.isLt
 omega
theorem ok_more (hok : ∀ i, i < g.toNat → okB l 0 (a.toNat + i)) (hj : j < l.length) (hin : inS (l.getD j default) (a.toNat + g.toNat)) {m : Nat} (hm : a.toNat + m ≤ (l.getD j default).a.toNat + (l.getD j default).z.toNat) : ∀ i, i < m → okB l 0 (a.toNat + i) := by
 intro i hi
 rcases Nat.lt_or_ge i g.toNat with q | q
 ·exact hok i q
 exact ⟨j, hj, ⟨by have := hin.1; omega, by omega⟩, mayA_0 _⟩
theorem there_room (hin : inS (l.getD j default) (a.toNat + g.toNat)) (hb : (a + g).toNat = a.toNat + g.toNat) : ((l.getD j default).z - (a + g - (l.getD j default).a)).toNat = (l.getD j default).a.toNat + (l.getD j default).z.toNat - (a.toNat + g.toNat) := by
 obtain ⟨h1, h2⟩ := hin
 have e1 : (a + g - (l.getD j default).a).toNat = a.toNat + g.toNat - (l.getD j default).a.toNat := by rw [sub_w (by omega), hb]
 rw [sub_w (by omega), e1]
 omega
theorem there_go (hok : ∀ i, i < g.toNat → okB l 0 (a.toNat + i)) (hj : j < l.length) (hin : inS (l.getD j default) (a.toNat + g.toNat)) (hb : (a + g).toNat = a.toNat + g.toNat) (hsz : (l.getD j default).a.toNat + (l.getD j default).z.toNat ≤ 18446744073709551615) (hg : g < n) (h : n - g ≤ (l.getD j default).z - (a + g - (l.getD j default).a)) : ∀ i, i < n.toNat → okB l 0 (a.toNat + i) := by
 rw [BitVec.lt_def] at hg
 rw [BitVec.le_def, there_room hin hb, sub_w (by omega)] at h
 exact ok_more hok hj hin (by omega)
theorem there_st (hok : ∀ i, i < g.toNat → okB l 0 (a.toNat + i)) (hj : j < l.length) (hin : inS (l.getD j default) (a.toNat + g.toNat)) (hb : (a + g).toNat = a.toNat + g.toNat) (hsz : (l.getD j default).a.toNat + (l.getD j default).z.toNat ≤ 18446744073709551615) (hg : g < n) (h : ¬ n - g ≤ (l.getD j default).z - (a + g - (l.getD j default).a)) (hr : a.toNat + n.toNat ≤ 18446744073709551616) :
    (g + ((l.getD j default).z - (a + g - (l.getD j default).a))).toNat ≤ n.toNat ∧ (∀ i, i < (g + ((l.getD j default).z - (a + g - (l.getD j default).a))).toNat → okB l 0 (a.toNat + i)) ∧ g.toNat < (g + ((l.getD j default).z - (a + g - (l.getD j default).a))).toNat := by
 rw [BitVec.lt_def] at hg
 have e := there_room hin hb
 rw [BitVec.le_def, e, sub_w (by omega)] at h
 have hn := n.isLt
 obtain ⟨h1, h2⟩ := hin
 have e2 : (g + ((l.getD j default).z - (a + g - (l.getD j default).a))).toNat = g.toNat + ((l.getD j default).a.toNat + (l.getD j default).z.toNat - (a.toNat + g.toNat)) := by rw [add_w (by rw [e]; omega), e]
 rw [e2]
 exact ⟨by omega, ok_more hok hj ⟨h1, h2⟩ (by omega), by omega⟩
theorem there_no (h : ∀ k, k < l.length → ¬ inS (l.getD k default) (a.toNat + g.toNat)) : ¬ okB l 0 (a.toNat + g.toNat) := fun ⟨k, hk, q, _⟩ => h k hk q
end
set_option maxHeartbeats 4000000 in
theorem There15 (s : Nat) (C : List T) (l0 : List Seg) (hC : C[38]? = some (.sl 4 (l0.flatMap seg0))) (hs : ∀ t ∈ l0, okS t) (hl : l0.length ≤ 1048576) (a n : Wd64) :
    ACalls Tryz.prog 15 [.v (.pointer (some ⟨s, 0, none⟩)), zw a, zw n, zi 8] [Ent.box s 91 C] (fun t S => (∃ b : Bool, (b = true ↔ thereP l0 a n.toNat) ∧ t = bv b) ∧ S = [Ent.box s 91 C]) := by
 refine ACalls.intro Tryz.func15 rfl Tryz.ntmps15 (Nat.le_of_ble_eq_true rfl) rfl fun X w0 => ?_
 refine AW.rseq ?_
 refine AWL.y rfl rfl (B rfl) (Yv.assign rfl (E rfl rfl)) ?_
 refine AWL.nil ?_
 refine AW.seq ?_
 refine AW.rseq ?_
 refine AWL.y rfl rfl (B rfl) (Yv.move rfl (E rfl rfl)) ?_
 refine AWL.y rfl rfl (B rfl) (Yv.eqlW (b := 0#64) rfl (E rfl rfl) (E rfl rfl)) ?_
 refine AWL.nil ?_
 refine AW.cond rfl (fun h0t => ?_) (fun h0f => ?_)
 ·try replace h0t := of_decide_eq_true h0t
  refine AW.rseq ?_
  refine AWL.y rfl rfl (B rfl) (Yv.assign rfl (E rfl rfl)) ?_
  refine AWL.nil ?_
  refine AW.ret (retI (.tmp rfl .nil) ?_)
  exact ⟨⟨true, ⟨fun _ => there_0 h0t, fun _ => rfl⟩, rfl⟩, rfl⟩
 try replace h0f := of_decide_eq_false h0f
 refine AW.skip ?_
 refine AW.seq ?_
 refine AW.rseq ?_
 refine AWL.y rfl rfl (B rfl) (Yv.move rfl (E rfl rfl)) ?_
 refine AWL.y rfl rfl (B rfl) (Yv.move rfl (E rfl rfl)) ?_
 refine AWL.y rfl rfl (B rfl) (Yv.subW (b := 1#64) rfl (E rfl rfl) (E rfl rfl)) ?_
 refine AWL.y rfl rfl (B rfl) (Yv.subW (a := 18446744073709551615#64) rfl (E rfl rfl) (E rfl rfl)) ?_
 refine AWL.y rfl rfl (B rfl) (Yv.gtrW rfl (E rfl rfl) (E rfl rfl)) ?_
 refine AWL.nil ?_
 refine AW.cond rfl (fun h1t => ?_) (fun h1f => ?_)
 ·try replace h1t := of_decide_eq_true h1t
  refine AW.rseq ?_
  refine AWL.y rfl rfl (B rfl) (Yv.assign rfl (E rfl rfl)) ?_
  refine AWL.nil ?_
  refine AW.ret (retI (.tmp rfl .nil) ?_)
  exact ⟨⟨false, ⟨fun h => (by cases h), fun q => absurd q (there_far h0f h1t)⟩, rfl⟩, rfl⟩
 try replace h1f := of_decide_eq_false h1f
 have hr := there_r h0f h1f
 refine AW.skip ?_
 refine AW.seq ?_
 refine AW.rseq ?_
 refine AWL.y rfl rfl (B rfl) (Yv.assign rfl (E rfl rfl)) ?_
 refine AWL.nil ?_
 refine AW.block ?_
 refine AW.loop (fun (g : Wd64) => [(0, true, .v (.pointer (some ⟨s, 0, none⟩))), (1, true, zw a), (2, true, zw n), (3, true, zi 8), (8, true, bv false), (9, true, zw g)]) (fun (g : Wd64) => [Ent.box s 91 C]) (fun (g : Wd64) => g.toNat ≤ n.toNat ∧ ∀ i, i < g.toNat → okB l0 0 (a.toNat + i)) (fun (g : Wd64) => n.toNat - g.toNat) (0#64) ?_ ?_ ?_ ?_
 ·exact ⟨Nat.zero_le _, fun i hi => absurd hi (Nat.not_lt_zero _)⟩
 ·exact (Sub.cons rfl rfl (Sub.cons rfl rfl (Sub.cons rfl rfl (Sub.cons rfl rfl (Sub.cons rfl rfl (Sub.cons rfl rfl Sub.nil))))))
 ·rfl
 intro g ⟨hgn, hok⟩
 refine AW.seq ?_
 refine AW.rseq ?_
 refine AWL.y rfl rfl (B rfl) (Yv.move rfl (E rfl rfl)) ?_
 refine AWL.y rfl rfl (B rfl) (Yv.move rfl (E rfl rfl)) ?_
 refine AWL.y rfl rfl (B rfl) (Yv.lssW rfl (E rfl rfl) (E rfl rfl)) ?_
 refine AWL.nil ?_
 refine AW.cond rfl (fun h2t => ?_) (fun h2f => ?_)
 ·try replace h2t := of_decide_eq_true h2t
  have hb : (a + g).toNat = a.toNat + g.toNat := by rw [BitVec.lt_def] at h2t; exact add_w (by omega)
  refine AW.skip ?_
  refine AW.block ?_
  refine AW.rseq ?_
  refine AWL.y rfl rfl (B rfl) (Yv.assign rfl (E rfl rfl)) ?_
  refine AWL.nil ?_
  refine AW.seq ?_
  refine AW.rseq ?_
  refine AWL.y rfl rfl (B rfl) (Yv.assign rfl (E rfl rfl)) ?_
  refine AWL.nil ?_
  refine AW.block ?_
  refine AW.loop (fun (j : Nat) => [(0, true, .v (.pointer (some ⟨s, 0, none⟩))), (1, true, zw a), (2, true, zw n), (3, true, zi 8), (8, true, bv false), (9, true, zw g), (10, true, bv false), (11, true, zi (j : Int))]) (fun (j : Nat) => [Ent.box s 91 C]) (fun (j : Nat) => j ≤ l0.length ∧ ∀ k, k < j → ¬ inS (l0.getD k default) (a.toNat + g.toNat)) (fun (j : Nat) => l0.length - j) 0 ?_ ?_ ?_ ?_
  ·exact ⟨Nat.zero_le _, fun k hk => absurd hk (Nat.not_lt_zero _)⟩
  ·exact (Sub.cons rfl rfl (Sub.cons rfl rfl (Sub.cons rfl rfl (Sub.cons rfl rfl (Sub.cons rfl rfl (Sub.cons rfl rfl (Sub.cons rfl rfl (Sub.cons rfl rfl Sub.nil))))))))
  ·rfl
  intro j ⟨hjl, hno⟩
  refine AW.seq ?_
  refine AW.rseq ?_
  refine AWL.y rfl rfl (B rfl) (Yv.move rfl (E rfl rfl)) ?_
  refine AWL.y rfl rfl (B rfl) (Yv.move rfl (E rfl rfl)) ?_
  refine AWL.y rfl rfl (B rfl) (Yv.nilChk rfl (E rfl rfl)) ?_
  refine AWL.y rfl rfl (B rfl) (Yv.fieldBox rfl fo_91_1 (E rfl rfl)) ?_
  refine AWL.y rfl rfl (B rfl) (Yv.loadBox (i := 0) rfl ag_23 rfl (E rfl rfl) hC) ?_
  refine AWL.y rfl rfl (B rfl) (Yv.lenSl rfl so_23 (B rfl) (E rfl rfl) len_seg0) ?_
  refine AWL.y rfl rfl (B rfl) (Yv.lss rfl (E rfl rfl) (E rfl rfl)) ?_
  refine AWL.nil ?_
  refine AW.cond rfl (fun h3t => ?_) (fun h3f => ?_)
  ·try replace h3t := of_decide_eq_true h3t
   have hj : j < l0.length := by omega
   refine AW.skip ?_
   refine AW.seq ?_
   refine AW.block ?_
   refine AW.rseq ?_
   refine AWL.y rfl rfl (B rfl) (Yv.move rfl (E rfl rfl)) ?_
   refine AWL.y rfl rfl (B rfl) (Yv.nilChk rfl (E rfl rfl)) ?_
   refine AWL.y rfl rfl (B rfl) (Yv.fieldBox rfl fo_91_1 (E rfl rfl)) ?_
   refine AWL.y rfl rfl (B rfl) (Yv.loadBox (i := 0) rfl ag_23 rfl (E rfl rfl) hC) ?_
   refine AWL.y rfl rfl (B rfl) (Yv.move rfl (E rfl rfl)) ?_
   refine AWL.y rfl rfl (B rfl) (Yv.indexSl (j := j) rfl ss_23 (B rfl) (E rfl rfl) (E rfl rfl) (fun hg => ⟨rfl, by rw [len_seg0]; omega⟩)) ?_
   refine AWL.y rfl rfl (B rfl) (Yv.loadRpA rfl ag_29 (E rfl rfl) (fun hg => ⟨seg0_get hj, rfl⟩)) ?_
   refine AWL.allocOp rfl rfl (B rfl) rfl zc_29 (fun b12 => ?_)
   refine AWL.storeBox (i := 1) rfl rfl rfl ag_29 rfl (E rfl rfl) (E rfl rfl) rfl rfl (Nat.le_of_ble_eq_true rfl) ?_
   refine AWL.nil ?_
   refine AW.rseq ?_
   refine AWL.y rfl rfl (B rfl) (Yv.fieldBox rfl fo_29_0 (E rfl rfl)) ?_
   refine AWL.y rfl rfl (B rfl) (Yv.loadBox rfl ag_22 (i := 1) rfl (E rfl rfl) rfl) ?_
   refine AWL.y rfl rfl (B rfl) (Yv.move rfl (E rfl rfl)) ?_
   refine AWL.y rfl rfl (B rfl) (Yv.move rfl (E rfl rfl)) ?_
   refine AWL.y rfl rfl (B rfl) (Yv.addW rfl (E rfl rfl) (E rfl rfl)) ?_
   refine AWL.y rfl rfl (B rfl) (Yv.leqW rfl (E rfl rfl) (E rfl rfl)) ?_
   refine AWL.y rfl rfl (B rfl) (Yv.move rfl (E rfl rfl)) ?_
   refine AWL.ygT rfl rfl rfl rfl (B rfl) (Yv.move rfl (E rfl rfl)) ?_
   refine AWL.ygT rfl rfl rfl rfl (B rfl) (Yv.move rfl (E rfl rfl)) ?_
   refine AWL.ygT rfl rfl rfl rfl (B rfl) (Yv.addW rfl (Eg rfl rfl id) (Eg rfl rfl id)) ?_
   refine AWL.ygT rfl rfl rfl rfl (B rfl) (Yv.fieldBox rfl fo_29_0 (E rfl rfl)) ?_
   refine AWL.ygT rfl rfl rfl rfl (B rfl) (Yv.loadBox rfl ag_22 (i := 1) rfl (Eg rfl rfl id) rfl) ?_
   refine AWL.ygT rfl rfl rfl rfl (B rfl) (Yv.subW rfl (Eg rfl rfl id) (Eg rfl rfl id)) ?_
   refine AWL.ygT rfl rfl rfl rfl (B rfl) (Yv.fieldBox rfl fo_29_1 (E rfl rfl)) ?_
   refine AWL.ygT rfl rfl rfl rfl (B rfl) (Yv.loadBox rfl ag_22 (i := 1) rfl (Eg rfl rfl id) rfl) ?_
   refine AWL.ygT rfl rfl rfl rfl (B rfl) (Yv.lssW rfl (Eg rfl rfl id) (Eg rfl rfl id)) ?_
   refine AWL.y rfl rfl (B rfl) (Yv.pickAnd rfl (E rfl rfl) (Eg rfl rfl id)) ?_
   refine AWL.y rfl rfl (B rfl) (Yv.move rfl (E rfl rfl)) ?_
   refine AWL.ygT rfl rfl rfl rfl (B rfl) (Yv.fieldBox rfl fo_29_2 (E rfl rfl)) ?_
   refine AWL.ygT rfl rfl rfl rfl (B rfl) (Yv.loadBox rfl ag_3 (i := 1) rfl (Eg rfl rfl id) rfl) ?_
   refine AWL.ygT rfl rfl rfl rfl (B rfl) (Yv.move rfl (E rfl rfl)) ?_
   refine AWL.ygT rfl rfl rfl rfl (B rfl) (Yv.quo rfl (Eg rfl rfl id) (Eg rfl rfl id) (fun hg => by first | omega | (simp only [Bool.and_eq_true, Bool.or_eq_false_iff, Bool.not_eq_true', Bool.not_eq_false', decide_eq_true_eq, decide_eq_false_iff_not] at hg; omega))) ?_
   refine AWL.ygT rfl rfl rfl rfl (B rfl) (Yv.rem rfl (Eg rfl rfl id) (E rfl rfl) (fun hg => by first | omega | (simp only [Bool.and_eq_true, Bool.or_eq_false_iff, Bool.not_eq_true', Bool.not_eq_false', decide_eq_true_eq, decide_eq_false_iff_not] at hg; omega))) ?_
   refine AWL.ygT rfl rfl rfl rfl (B rfl) (Yv.eql rfl (Eg rfl rfl id) (E rfl rfl)) ?_
   refine AWL.ygT rfl rfl rfl rfl (B rfl) (Yv.move rfl (Eg rfl rfl id)) ?_
   refine AWL.ygF rfl rfl rfl rfl (B rfl) (Yv.move rfl (E rfl rfl)) ?_
   refine AWL.ygF rfl rfl rfl rfl (B rfl) (Yv.eql rfl (Eg rfl rfl id) (E rfl rfl)) ?_
   refine AWL.ygT rfl rfl rfl rfl (B rfl) (Yv.pickOr (t := .const (.bool true)) rfl (Eg rfl rfl id) (Eg rfl rfl id)) ?_
   refine AWL.y rfl rfl (B rfl) (Yv.pickAnd rfl (E rfl rfl) (Eg rfl rfl id)) ?_
   refine AWL.nil ?_
   refine AW.cond rfl (fun h4t => ?_) (fun h4f => ?_)
   ·try replace h4t := of_decide_eq_true h4t
    have hin : inS (l0.getD j default) (a.toNat + g.toNat) := by rw [← hb]; exact there_in.2 (by simpa using h4t)
    have hsz := (hs _ (mem_getD.2 ⟨j, hj, rfl⟩)).2.2.1
    refine AW.rseq ?_
    refine AWL.y rfl rfl (B rfl) (Yv.fieldBox rfl fo_29_1 (E rfl rfl)) ?_
    refine AWL.y rfl rfl (B rfl) (Yv.loadBox rfl ag_22 (i := 1) rfl (E rfl rfl) rfl) ?_
    refine AWL.y rfl rfl (B rfl) (Yv.move rfl (E rfl rfl)) ?_
    refine AWL.y rfl rfl (B rfl) (Yv.move rfl (E rfl rfl)) ?_
    refine AWL.y rfl rfl (B rfl) (Yv.addW rfl (E rfl rfl) (E rfl rfl)) ?_
    refine AWL.y rfl rfl (B rfl) (Yv.fieldBox rfl fo_29_0 (E rfl rfl)) ?_
    refine AWL.y rfl rfl (B rfl) (Yv.loadBox rfl ag_22 (i := 1) rfl (E rfl rfl) rfl) ?_
    refine AWL.y rfl rfl (B rfl) (Yv.subW rfl (E rfl rfl) (E rfl rfl)) ?_
    refine AWL.y rfl rfl (B rfl) (Yv.subW rfl (E rfl rfl) (E rfl rfl)) ?_
    refine AWL.y rfl rfl (B rfl) (Yv.assign rfl (E rfl rfl)) ?_
    refine AWL.nil ?_
    refine AW.seq ?_
    refine AW.rseq ?_
    refine AWL.y rfl rfl (B rfl) (Yv.move rfl (E rfl rfl)) ?_
    refine AWL.y rfl rfl (B rfl) (Yv.move rfl (E rfl rfl)) ?_
    refine AWL.y rfl rfl (B rfl) (Yv.move rfl (E rfl rfl)) ?_
    refine AWL.y rfl rfl (B rfl) (Yv.subW rfl (E rfl rfl) (E rfl rfl)) ?_
    refine AWL.y rfl rfl (B rfl) (Yv.geqW rfl (E rfl rfl) (E rfl rfl)) ?_
    refine AWL.nil ?_
    refine AW.cond rfl (fun h5t => ?_) (fun h5f => ?_)
    ·try replace h5t := of_decide_eq_true h5t
     have hgo := there_go hok hj hin hb hsz h2t h5t
     refine AW.dropAt 1 ?_
     refine AW.rseq ?_
     refine AWL.y rfl rfl (B rfl) (Yv.assign rfl (E rfl rfl)) ?_
     refine AWL.nil ?_
     refine AW.ret (retI (.tmp rfl .nil) ?_)
     exact ⟨⟨true, ⟨fun _ => ⟨hr, hgo⟩, fun _ => rfl⟩, rfl⟩, rfl⟩
    try replace h5f := of_decide_eq_false h5f
    have hst := there_st hok hj hin hb hsz h2t h5f hr
    refine AW.skip ?_
    refine AW.dropAt 1 ?_
    refine AW.rseq ?_
    refine AWL.y rfl rfl (B rfl) (Yv.assign rfl (E rfl rfl)) ?_
    refine AWL.nil ?_
    refine AW.rseq ?_
    refine AWL.y rfl rfl (B rfl) (Yv.move rfl (E rfl rfl)) ?_
    refine AWL.y rfl rfl (B rfl) (Yv.move rfl (E rfl rfl)) ?_
    refine AWL.y rfl rfl (B rfl) (Yv.addW rfl (E rfl rfl) (E rfl rfl)) ?_
    refine AWL.y rfl rfl (B rfl) (Yv.assign rfl (E rfl rfl)) ?_
    refine AWL.nil ?_
    refine AW.exit ?_
    refine AW.rseq ?_
    refine AWL.y rfl rfl (B rfl) (Yv.move rfl (E rfl rfl)) ?_
    refine AWL.y rfl rfl (B rfl) (Yv.not rfl (E rfl rfl)) ?_
    refine AWL.nil ?_
    refine AW.cond rfl (fun h6t => ?_) (fun h6f => ?_)
    ·try replace h6t := of_decide_eq_true h6t
     simp at h6t
    try replace h6f := of_decide_eq_false h6f
    refine AW.skip ?_
    exact ⟨_, ⟨hst.1, hst.2.1⟩, by omega, (Sub.cons rfl rfl (Sub.cons rfl rfl (Sub.cons rfl rfl (Sub.cons rfl rfl (Sub.cons rfl rfl (Sub.cons rfl rfl Sub.nil)))))), rfl⟩
   try replace h4f := of_decide_eq_false h4f
   have hnj : ¬ inS (l0.getD j default) (a.toNat + g.toNat) := by rw [← hb]; exact fun q => absurd (there_in.1 q) (by simpa using h4f)
   refine AW.skip ?_
   refine AW.dropAt 1 ?_
   refine AW.region ?_
   refine AWL.y rfl rfl (B rfl) (Yv.move rfl (E rfl rfl)) ?_
   refine AWL.y rfl rfl (B rfl) (Yv.addN_i64 rfl (E rfl rfl) (E rfl rfl) (fun hg => by omega)) ?_
   refine AWL.y rfl rfl (B rfl) (Yv.assign rfl (E rfl rfl)) ?_
   refine AWL.nil ?_
   exact ⟨j + 1, ⟨by omega, fun k hk => (Nat.lt_succ_iff_lt_or_eq.1 hk).elim (hno k) (fun e => e ▸ hnj)⟩, by omega, (Sub.cons rfl rfl (Sub.cons rfl rfl (Sub.cons rfl rfl (Sub.cons rfl rfl (Sub.cons rfl rfl (Sub.cons rfl rfl (Sub.cons rfl rfl (Sub.cons rfl rfl Sub.nil)))))))), rfl⟩
  try replace h3f := of_decide_eq_false h3f
  have hje : l0.length ≤ j := by omega
  refine AW.exit ?_
  refine AW.rseq ?_
  refine AWL.y rfl rfl (B rfl) (Yv.move rfl (E rfl rfl)) ?_
  refine AWL.y rfl rfl (B rfl) (Yv.not rfl (E rfl rfl)) ?_
  refine AWL.nil ?_
  refine AW.cond rfl (fun h7t => ?_) (fun h7f => ?_)
  ·try replace h7t := of_decide_eq_true h7t
   refine AW.rseq ?_
   refine AWL.y rfl rfl (B rfl) (Yv.assign rfl (E rfl rfl)) ?_
   refine AWL.nil ?_
   refine AW.ret (retI (.tmp rfl .nil) ?_)
   exact ⟨⟨false, ⟨fun h => (by cases h), fun q => absurd (q.2 g.toNat (by rw [BitVec.lt_def] at h2t; exact h2t)) (there_no (fun k hk => hno k (by omega)))⟩, rfl⟩, rfl⟩
  try replace h7f := of_decide_eq_false h7f
  simp at h7f
 try replace h2f := of_decide_eq_false h2f
 have hall : n.toNat ≤ g.toNat := by rw [BitVec.lt_def] at h2f; omega
 refine AW.exit ?_
 refine AW.rseq ?_
 refine AWL.y rfl rfl (B rfl) (Yv.assign rfl (E rfl rfl)) ?_
 refine AWL.nil ?_
 refine AW.ret (retI (.tmp rfl .nil) ?_)
 exact ⟨⟨true, ⟨fun _ => ⟨hr, fun i hi => hok i (by omega)⟩, fun _ => rfl⟩, rfl⟩, rfl⟩

end Go.Proofs.YtecpjlhbkmongaaGreat.M

namespace Go.Proofs.YtecpjlhbkmongaaGreat.M
open Go Go.RowKit

def carW (a b : Wd64) : Wd64 := if a.toNat + b.toNat < 18446744073709551616 then 0#64 else 1#64
theorem Yv.add64 {cx : Cx} {env : Env} {S : St} {o : Oper} {g : Bool} {x y z xf : Operand} {ats : Array TypeId} {f : FuncId} {fn : Func} {a b : Wd64} (hf : cx.P.funcs[f]? = some fn) (hn : (fn.name == "runtime.NumGoroutine") = false) (hb : fn.body.isNone = true) (h1 : Extern.findNext fn = none) (h2 : Extern.find fn = some add64Entry)
    (ho : o.op = .call { callee := .value xf, args := #[x, y, z], argTypes := ats }) (hxf : Ev env g xf (.v (.func (.func f) #[] #[]))) (hx : Ev env g x (zw a)) (hy : Ev env g y (zw b)) (hz : Ev env g z (zw 0#64)) : Yv cx o env S g (.tup [zw (a + b), zw (carW a b)]) := by
 intro ac w hs hg
 refine ⟨.tuple #[.int .u64 ((a + b).toNat : Int), .int .u64 ((carW a b).toNat : Int)], .tup (ys := [.int .u64 ((a + b).toNat : Int), .int .u64 ((carW a b).toNat : Int)]) rfl (fun j t u h1 h2 => ?_), fun w' _ => ?_⟩
 ·match j with
  | 0 => simp at h1 h2; subst h1; subst h2; exact .v _
  | 1 => simp at h1 h2; subst h1; subst h2; exact .v _
  | j + 2 => simp at h1
 have e : (callFunc f (#[] ++ #[x, y, z].map ac.eval ++ #[])).run cx.P w' = .ok (.value (.tuple #[.int .u64 ((a + b).toNat : Int), .int .u64 ((carW a b).toNat : Int)])) w' := by
  rw [run_callFunc_extern hf hn hb h1 h2]
  have : (#[] ++ #[x, y, z].map ac.eval ++ #[] : Array Value) = #[.int .u64 (a.toNat : Int), .int .u64 (b.toNat : Int), .int .u64 0] := by simp [hx.val hs hg, hy.val hs hg, hz.val hs hg]
  rw [this, run_add64 _ _ _ (by omega) (by omega) (by omega) (by omega)]
  have := a.isLt
  have := b.isLt
  have e2 : ((a.toNat : Int) + (b.toNat : Int) + 0) / 18446744073709551616 = ((carW a b).toNat : Int) := by
   unfold carW
   split
   ·show _ = ((0 : Nat) : Int); omega
   ·show _ = ((1 : Nat) : Int); omega
  have e1 : ((a.toNat : Int) + (b.toNat : Int) + 0) % 18446744073709551616 = ((a + b).toNat : Int) := by rw [BitVec.toNat_add]; omega
  rw [e1, e2]
  rfl
 simp only [execOp, ho, resolve, Deferred.ofValue, hxf.val hs hg, Sem.run_bind, Sem.run_pure, Result.andThen_ok, invoke, e]
set_option maxHeartbeats 400000 in
theorem ones104  :
    ACalls Tryz.prog 104 [u8 0] [] (fun t S => t = zi 0) := by
 refine ACalls.intro Tryz.func104 rfl Tryz.ntmps104 (Nat.le_of_ble_eq_true rfl) rfl fun X w0 => ?_
 refine AW.rseq ?_
 refine AWL.y rfl rfl (B rfl) (Yv.assign rfl (E rfl rfl)) ?_
 refine AWL.nil ?_
 refine AW.rseq ?_
 refine AWL.y rfl rfl (B rfl) (Yv.move rfl (E rfl rfl)) ?_
 refine AWL.y rfl rfl (B rfl) (Yv.indexS (b := 0) (j := 0) rfl st_9 (E rfl rfl) (E rfl rfl) (fun hg => ⟨rfl, by kernel_rfl⟩)) ?_
 refine AWL.y rfl rfl (B rfl) (Yv.convU8 rfl Tryz.underlying5 kd_3 rfl (E rfl rfl)) ?_
 refine AWL.y rfl rfl (B rfl) (Yv.assign rfl (E rfl rfl)) ?_
 refine AWL.nil ?_
 refine AW.ret (retI (.tmp rfl .nil) ?_)
 rfl

set_option maxHeartbeats 2000000 in
theorem result78 (mb : Nat) (s : Ms) (mm w kn : T) (v : Wd64) (hv : v = 0#64) :
    ACalls Tryz.prog 78 [.v (.pointer (some ⟨mb, 0, none⟩)), zw v] [Ent.box mb 73 (mcC s mm w kn)] (fun t S => S = [Ent.box mb 73 (mcC { s with fZ := true, fS := false, fP := true } mm w kn)]) := by
 subst hv
 refine ACalls.intro Tryz.func78 rfl Tryz.ntmps78 (Nat.le_of_ble_eq_true rfl) rfl fun X w0 => ?_
 refine AW.region ?_
 refine AWL.y rfl rfl (B rfl) (Yv.move rfl (E rfl rfl)) ?_
 refine AWL.y rfl rfl (B rfl) (Yv.move rfl (E rfl rfl)) ?_
 refine AWL.y rfl rfl (B rfl) (Yv.move rfl (E rfl rfl)) ?_
 refine AWL.y rfl rfl (B rfl) (Yv.move rfl (E rfl rfl)) ?_
 refine AWL.y rfl rfl (B rfl) (Yv.eqlW (b := 0#64) rfl (E rfl rfl) (E rfl rfl)) ?_
 refine AWL.y rfl rfl (B rfl) (Yv.move rfl (E rfl rfl)) ?_
 refine AWL.y rfl rfl (B rfl) (Yv.shrW (n := 63) rfl (E rfl rfl) (E rfl rfl) (by decide)) ?_
 refine AWL.y rfl rfl (B rfl) (Yv.eqlW (b := 1#64) rfl (E rfl rfl) (E rfl rfl)) ?_
 refine AWL.y rfl rfl (B rfl) (Yv.move rfl (E rfl rfl)) ?_
 refine AWL.y rfl rfl (B rfl) (Yv.conv rfl Tryz.underlying22 kd_5 (E rfl rfl)) ?_
 refine AWL.callT rfl rfl (B rfl) rfl ce_104 (E rfl rfl) (evsC (E rfl rfl) evs0) (ones104) ?_
 rintro t14 S14 rfl
 refine AWL.y rfl rfl (B rfl) (Yv.remN rfl (E rfl rfl) (E rfl rfl) (fun hg => by omega)) ?_
 refine AWL.y rfl rfl (B rfl) (Yv.eql rfl (E rfl rfl) (E rfl rfl)) ?_
 refine AWL.y rfl rfl (B rfl) (Yv.nilChk rfl (E rfl rfl)) ?_
 refine AWL.y rfl rfl (B rfl) (Yv.fieldBox rfl fo_73_0 (E rfl rfl)) ?_
 refine AWL.y rfl rfl (B rfl) (Yv.fieldBox rfl fo_71_2 (E rfl rfl)) ?_
 refine AWL.y rfl rfl (B rfl) (Yv.fieldBox rfl fo_48_2 (E rfl rfl)) ?_
 refine AWL.storeBox (i := 0) rfl rfl rfl ag_4 rfl (E rfl rfl) (E rfl rfl) rfl rfl (Nat.le_of_ble_eq_true rfl) ?_
 refine AWL.y rfl rfl (B rfl) (Yv.nilChk rfl (E rfl rfl)) ?_
 refine AWL.y rfl rfl (B rfl) (Yv.fieldBox rfl fo_73_0 (E rfl rfl)) ?_
 refine AWL.y rfl rfl (B rfl) (Yv.fieldBox rfl fo_71_2 (E rfl rfl)) ?_
 refine AWL.y rfl rfl (B rfl) (Yv.fieldBox rfl fo_48_3 (E rfl rfl)) ?_
 refine AWL.storeBox (i := 0) rfl rfl rfl ag_4 rfl (E rfl rfl) (E rfl rfl) rfl rfl (Nat.le_of_ble_eq_true rfl) ?_
 refine AWL.y rfl rfl (B rfl) (Yv.nilChk rfl (E rfl rfl)) ?_
 refine AWL.y rfl rfl (B rfl) (Yv.fieldBox rfl fo_73_0 (E rfl rfl)) ?_
 refine AWL.y rfl rfl (B rfl) (Yv.fieldBox rfl fo_71_2 (E rfl rfl)) ?_
 refine AWL.y rfl rfl (B rfl) (Yv.fieldBox rfl fo_48_1 (E rfl rfl)) ?_
 refine AWL.storeBox (i := 0) rfl rfl rfl ag_4 rfl (E rfl rfl) (E rfl rfl) rfl rfl (Nat.le_of_ble_eq_true rfl) ?_
 refine AWL.nil ?_
 refine retN .nil ?_
 rfl

set_option maxHeartbeats 2000000 in
theorem sum54 (mb : Nat) (s : Ms) (mm w kn : T) (a b : Wd64) (hab : a + b = 0#64) :
    ACalls Tryz.prog 54 [.v (.pointer (some ⟨mb, 0, none⟩)), zw a, zw b, zw 0#64] [Ent.box mb 73 (mcC s mm w kn)] (fun t S => t = zw 0#64 ∧ ∃ o, S = [Ent.box mb 73 (mcC { s with fC := decide (carW a b = 1#64), fO := o, fZ := true, fS := false, fP := true } mm w kn)]) := by
 refine ACalls.intro Tryz.func54 rfl Tryz.ntmps54 (Nat.le_of_ble_eq_true rfl) rfl fun X w0 => ?_
 refine AW.rseq ?_
 refine AWL.y rfl rfl (B rfl) (Yv.assign rfl (E rfl rfl)) ?_
 refine AWL.nil ?_
 refine AW.rseq ?_
 refine AWL.y rfl rfl (B rfl) (Yv.move rfl (E rfl rfl)) ?_
 refine AWL.y rfl rfl (B rfl) (Yv.move rfl (E rfl rfl)) ?_
 refine AWL.y rfl rfl (B rfl) (Yv.move rfl (E rfl rfl)) ?_
 refine AWL.y rfl rfl (B rfl) (Yv.add64 Tryz.func77 (by kernel_rfl) (by kernel_rfl) (by kernel_rfl) (by kernel_rfl) rfl (E rfl rfl) (E rfl rfl) (E rfl rfl) (E rfl rfl)) ?_
 refine AWL.y rfl rfl (B rfl) (Yv.move rfl (E rfl rfl)) ?_
 refine AWL.y rfl rfl (B rfl) (Yv.extract rfl (E rfl rfl) rfl) ?_
 refine AWL.y rfl rfl (B rfl) (Yv.extract rfl (E rfl rfl) rfl) ?_
 refine AWL.y rfl rfl (B rfl) (Yv.assign rfl (E rfl rfl)) ?_
 refine AWL.y rfl rfl (B rfl) (Yv.assign rfl (E rfl rfl)) ?_
 refine AWL.nil ?_
 refine AW.rseq ?_
 refine AWL.y rfl rfl (B rfl) (Yv.move rfl (E rfl rfl)) ?_
 refine AWL.y rfl rfl (B rfl) (Yv.move rfl (E rfl rfl)) ?_
 refine AWL.callF rfl rfl (B rfl) rfl ce_78 (E rfl rfl) (evsC (E rfl rfl) (evsC (E rfl rfl) evs0)) (F1 := []) (S1 := [Ent.box mb 73 (mcC s mm w kn)]) (F2 := []) rfl (result78 mb s mm w kn _ hab) ?_
 rintro t20 S20 rfl
 refine AWL.nil ?_
 refine AW.rseq ?_
 refine AWL.y rfl rfl (B rfl) (Yv.move rfl (E rfl rfl)) ?_
 refine AWL.y rfl rfl (B rfl) (Yv.move rfl (E rfl rfl)) ?_
 refine AWL.y rfl rfl (B rfl) (Yv.move rfl (E rfl rfl)) ?_
 refine AWL.y rfl rfl (B rfl) (Yv.eqlW (b := 1#64) rfl (E rfl rfl) (E rfl rfl)) ?_
 refine AWL.y rfl rfl (B rfl) (Yv.move rfl (E rfl rfl)) ?_
 refine AWL.y rfl rfl (B rfl) (Yv.move rfl (E rfl rfl)) ?_
 refine AWL.y rfl rfl (B rfl) (Yv.xorW rfl (E rfl rfl) (E rfl rfl)) ?_
 refine AWL.y rfl rfl (B rfl) (Yv.move rfl (E rfl rfl)) ?_
 refine AWL.y rfl rfl (B rfl) (Yv.move rfl (E rfl rfl)) ?_
 refine AWL.y rfl rfl (B rfl) (Yv.xorW rfl (E rfl rfl) (E rfl rfl)) ?_
 refine AWL.y rfl rfl (B rfl) (Yv.andW rfl (E rfl rfl) (E rfl rfl)) ?_
 refine AWL.y rfl rfl (B rfl) (Yv.shrW (n := 63) rfl (E rfl rfl) (E rfl rfl) (by decide)) ?_
 refine AWL.y rfl rfl (B rfl) (Yv.eqlW (b := 1#64) rfl (E rfl rfl) (E rfl rfl)) ?_
 refine AWL.y rfl rfl (B rfl) (Yv.nilChk rfl (E rfl rfl)) ?_
 refine AWL.y rfl rfl (B rfl) (Yv.fieldBox rfl fo_73_0 (E rfl rfl)) ?_
 refine AWL.y rfl rfl (B rfl) (Yv.fieldBox rfl fo_71_2 (E rfl rfl)) ?_
 refine AWL.y rfl rfl (B rfl) (Yv.fieldBox rfl fo_48_0 (E rfl rfl)) ?_
 refine AWL.storeBox (i := 0) rfl rfl rfl ag_4 rfl (E rfl rfl) (E rfl rfl) rfl rfl (Nat.le_of_ble_eq_true rfl) ?_
 refine AWL.y rfl rfl (B rfl) (Yv.nilChk rfl (E rfl rfl)) ?_
 refine AWL.y rfl rfl (B rfl) (Yv.fieldBox rfl fo_73_0 (E rfl rfl)) ?_
 refine AWL.y rfl rfl (B rfl) (Yv.fieldBox rfl fo_71_2 (E rfl rfl)) ?_
 refine AWL.y rfl rfl (B rfl) (Yv.fieldBox rfl fo_48_4 (E rfl rfl)) ?_
 refine AWL.storeBox (i := 0) rfl rfl rfl ag_4 rfl (E rfl rfl) (E rfl rfl) rfl rfl (Nat.le_of_ble_eq_true rfl) ?_
 refine AWL.nil ?_
 refine AW.rseq ?_
 refine AWL.y rfl rfl (B rfl) (Yv.move rfl (E rfl rfl)) ?_
 refine AWL.y rfl rfl (B rfl) (Yv.assign rfl (E rfl rfl)) ?_
 refine AWL.nil ?_
 refine AW.ret (retI (.tmp rfl .nil) ?_)
 exact ⟨by rw [hab]; rfl, _, rfl⟩

end Go.Proofs.YtecpjlhbkmongaaGreat.M

namespace Go.Proofs.YtecpjlhbkmongaaGreat.M
open Go Go.RowKit

set_option maxHeartbeats 2000000 in
theorem call59 (mb : Nat) (s : Ms) (mm w kn : T) (hr0 : s.r 0 = 60#64) (hr7 : s.r 7 = 300#64) :
    ACalls Tryz.prog 59 [.v (.pointer (some ⟨mb, 0, none⟩))] [Ent.box mb 73 (mcC s mm w kn)] (fun t S => t = zi 1 ∧ S = [Ent.box mb 73 (mcC { s with code := 44 } mm w kn)]) := by
 refine ACalls.intro Tryz.func59 rfl Tryz.ntmps59 (Nat.le_of_ble_eq_true rfl) rfl fun X w0 => ?_
 refine AW.rseq ?_
 refine AWL.y rfl rfl (B rfl) (Yv.assign rfl (E rfl rfl)) ?_
 refine AWL.nil ?_
 refine AW.rseq ?_
 refine AWL.y rfl rfl (B rfl) (Yv.assign rfl (E rfl rfl)) ?_
 refine AWL.nil ?_
 refine AW.rseqQ rfl (by kernel_rfl) ?_
 refine AWQ.y rfl rfl (B rfl) (Yv.move rfl (E rfl rfl)) ?_
 refine AWQ.y rfl rfl (B rfl) (Yv.nilChk rfl (E rfl rfl)) ?_
 refine AWQ.y rfl rfl (B rfl) (Yv.fieldBox rfl fo_73_0 (E rfl rfl)) ?_
 refine AWQ.y rfl rfl (B rfl) (Yv.fieldBox rfl fo_71_0 (E rfl rfl)) ?_
 refine AWQ.y rfl rfl (B rfl) (Yv.indexArr (j := 7) rfl ar_69 (E rfl rfl) (E rfl rfl) (fun hg => ⟨rfl, by decide⟩)) ?_
 refine AWQ.y rfl rfl (B rfl) (Yv.loadBox rfl ag_22 (i := 0) rfl (E rfl rfl) rfl) ?_
 refine AWQ.y rfl rfl (B rfl) (Yv.conv rfl Tryz.underlying22 kd_2 (E rfl rfl)) ?_
 refine AWQ.y rfl rfl (B rfl) (Yv.move rfl (E rfl rfl)) ?_
 refine AWQ.y rfl rfl (B rfl) (Yv.nilChk rfl (E rfl rfl)) ?_
 refine AWQ.y rfl rfl (B rfl) (Yv.fieldBox rfl fo_73_0 (E rfl rfl)) ?_
 refine AWQ.y rfl rfl (B rfl) (Yv.fieldBox rfl fo_71_0 (E rfl rfl)) ?_
 refine AWQ.y rfl rfl (B rfl) (Yv.indexArr (j := 6) rfl ar_69 (E rfl rfl) (E rfl rfl) (fun hg => ⟨rfl, by decide⟩)) ?_
 refine AWQ.y rfl rfl (B rfl) (Yv.loadBox rfl ag_22 (i := 0) rfl (E rfl rfl) rfl) ?_
 refine AWQ.y rfl rfl (B rfl) (Yv.move rfl (E rfl rfl)) ?_
 refine AWQ.y rfl rfl (B rfl) (Yv.nilChk rfl (E rfl rfl)) ?_
 refine AWQ.y rfl rfl (B rfl) (Yv.fieldBox rfl fo_73_0 (E rfl rfl)) ?_
 refine AWQ.y rfl rfl (B rfl) (Yv.fieldBox rfl fo_71_0 (E rfl rfl)) ?_
 refine AWQ.y rfl rfl (B rfl) (Yv.indexArr (j := 2) rfl ar_69 (E rfl rfl) (E rfl rfl) (fun hg => ⟨rfl, by decide⟩)) ?_
 refine AWQ.y rfl rfl (B rfl) (Yv.loadBox rfl ag_22 (i := 0) rfl (E rfl rfl) rfl) ?_
 refine AWQ.y rfl rfl (B rfl) (Yv.assign rfl (E rfl rfl)) ?_
 refine AWQ.y rfl rfl (B rfl) (Yv.assign rfl (E rfl rfl)) ?_
 refine AWQ.y rfl rfl (B rfl) (Yv.assign rfl (E rfl rfl)) ?_
 refine AWQ.nil ?_
 refine AW.seq ?_
 refine AW.rseq ?_
 refine AWL.y rfl rfl (B rfl) (Yv.move rfl (E rfl rfl)) ?_
 refine AWL.y rfl rfl (B rfl) (Yv.nilChk rfl (E rfl rfl)) ?_
 refine AWL.y rfl rfl (B rfl) (Yv.fieldBox rfl fo_73_0 (E rfl rfl)) ?_
 refine AWL.y rfl rfl (B rfl) (Yv.fieldBox rfl fo_71_0 (E rfl rfl)) ?_
 refine AWL.y rfl rfl (B rfl) (Yv.indexArr (j := 0) rfl ar_69 (E rfl rfl) (E rfl rfl) (fun hg => ⟨rfl, by decide⟩)) ?_
 refine AWL.y rfl rfl (B rfl) (Yv.loadBox rfl ag_22 (i := 0) rfl (E rfl rfl) rfl) ?_
 refine AWL.nil ?_
 refine AW.block ?_
 refine AW.rseq ?_
 refine AWL.y rfl rfl (B rfl) (Yv.eqlW (b := 0#64) rfl (E rfl rfl) (E rfl rfl)) ?_
 refine AWL.y rfl rfl (B rfl) (Yv.assign rfl (E rfl rfl)) ?_
 refine AWL.nil ?_
 refine AW.cond rfl (fun h0t => ?_) (fun h0f => ?_)
 ·try replace h0t := of_decide_eq_true h0t
  exact absurd (hr0.symm.trans h0t) (by decide)
 try replace h0f := of_decide_eq_false h0f
 refine AW.rseq ?_
 refine AWL.y rfl rfl (B rfl) (Yv.eqlW (b := 1#64) rfl (E rfl rfl) (E rfl rfl)) ?_
 refine AWL.y rfl rfl (B rfl) (Yv.assign rfl (E rfl rfl)) ?_
 refine AWL.nil ?_
 refine AW.cond rfl (fun h1t => ?_) (fun h1f => ?_)
 ·try replace h1t := of_decide_eq_true h1t
  exact absurd (hr0.symm.trans h1t) (by decide)
 try replace h1f := of_decide_eq_false h1f
 refine AW.rseq ?_
 refine AWL.y rfl rfl (B rfl) (Yv.eqlW (b := 2#64) rfl (E rfl rfl) (E rfl rfl)) ?_
 refine AWL.y rfl rfl (B rfl) (Yv.assign rfl (E rfl rfl)) ?_
 refine AWL.nil ?_
 refine AW.cond rfl (fun h2t => ?_) (fun h2f => ?_)
 ·try replace h2t := of_decide_eq_true h2t
  exact absurd (hr0.symm.trans h2t) (by decide)
 try replace h2f := of_decide_eq_false h2f
 refine AW.rseq ?_
 refine AWL.y rfl rfl (B rfl) (Yv.eqlW (b := 3#64) rfl (E rfl rfl) (E rfl rfl)) ?_
 refine AWL.y rfl rfl (B rfl) (Yv.assign rfl (E rfl rfl)) ?_
 refine AWL.nil ?_
 refine AW.cond rfl (fun h3t => ?_) (fun h3f => ?_)
 ·try replace h3t := of_decide_eq_true h3t
  exact absurd (hr0.symm.trans h3t) (by decide)
 try replace h3f := of_decide_eq_false h3f
 refine AW.rseq ?_
 refine AWL.y rfl rfl (B rfl) (Yv.eqlW (b := 60#64) rfl (E rfl rfl) (E rfl rfl)) ?_
 refine AWL.y rfl rfl (B rfl) (Yv.assign rfl (E rfl rfl)) ?_
 refine AWL.nil ?_
 refine AW.cond rfl (fun h4t => ?_) (fun h4f => ?_)
 ·try replace h4t := of_decide_eq_true h4t
  refine AW.rseq ?_
  refine AWL.y rfl rfl (B rfl) (Yv.move rfl (E rfl rfl)) ?_
  refine AWL.y rfl rfl (B rfl) (Yv.move rfl (E rfl rfl)) ?_
  refine AWL.y rfl rfl (B rfl) (Yv.nilChk rfl (E rfl rfl)) ?_
  refine AWL.y rfl rfl (B rfl) (Yv.fieldBox rfl fo_73_0 (E rfl rfl)) ?_
  refine AWL.y rfl rfl (B rfl) (Yv.fieldBox rfl fo_71_0 (E rfl rfl)) ?_
  refine AWL.y rfl rfl (B rfl) (Yv.indexArr (j := 7) rfl ar_69 (E rfl rfl) (E rfl rfl) (fun hg => ⟨rfl, by decide⟩)) ?_
  refine AWL.y rfl rfl (B rfl) (Yv.loadBox rfl ag_22 (i := 0) rfl (E rfl rfl) rfl) ?_
  refine AWL.y rfl rfl (B rfl) (Yv.andW (b := 255#64) rfl (E rfl rfl) (E rfl rfl)) ?_
  refine AWL.y rfl rfl (B rfl) (Yv.conv rfl Tryz.underlying22 kd_3 (E rfl rfl)) ?_
  refine AWL.y rfl rfl (B rfl) (Yv.nilChk rfl (E rfl rfl)) ?_
  refine AWL.y rfl rfl (B rfl) (Yv.fieldBox rfl fo_73_0 (E rfl rfl)) ?_
  refine AWL.y rfl rfl (B rfl) (Yv.fieldBox rfl fo_71_5 (E rfl rfl)) ?_
  refine AWL.storeBox (i := 0) rfl rfl rfl ag_3 rfl (E rfl rfl) (E rfl rfl) rfl rfl (Nat.le_of_ble_eq_true rfl) ?_
  refine AWL.nil ?_
  refine AW.rseq ?_
  refine AWL.y rfl rfl (B rfl) (Yv.assign rfl (E rfl rfl)) ?_
  refine AWL.nil ?_
  refine AW.ret (retI (.tmp rfl .nil) ?_)
  exact ⟨rfl, by rw [hr7]; rfl⟩
 try replace h4f := of_decide_eq_false h4f
 exact absurd hr0 h4f

set_option maxHeartbeats 4000000 in
theorem do41c (mb : Nat) (s : Ms) (mm w kn : T) (d : Nat) (hd : d < 16) (imm : Int) :
    ACalls Tryz.prog 41 [.v (.pointer (some ⟨mb, 0, none⟩)), insT ⟨2, (d : Int), 0, 0, 0, imm⟩] [Ent.box mb 73 (mcC s mm w kn)] (fun t S => t = zi 0 ∧ S = [Ent.box mb 73 (mcC { s with r := updR s.r d (wI imm) } mm w kn)]) := by
 refine ACalls.intro Tryz.func41 rfl Tryz.ntmps41 (Nat.le_of_ble_eq_true rfl) rfl fun X w0 => ?_
 refine AW.rseq ?_
 refine AWL.boxOp rfl rfl (B rfl) rfl (E rfl rfl) rfl (fun b3 => ?_)
 refine AWL.y rfl rfl (B rfl) (Yv.assign rfl (E rfl rfl)) ?_
 refine AWL.nil ?_
 refine AW.rseqQ rfl (by kernel_rfl) ?_
 refine AWQ.y rfl rfl (B rfl) (Yv.move rfl (E rfl rfl)) ?_
 refine AWQ.y rfl rfl (B rfl) (Yv.fieldBox rfl fo_57_1 (E rfl rfl)) ?_
 refine AWQ.y rfl rfl (B rfl) (Yv.loadBox rfl ag_3 (i := 1) rfl (E rfl rfl) rfl) ?_
 refine AWQ.y rfl rfl (B rfl) (Yv.nilChk rfl (E rfl rfl)) ?_
 refine AWQ.y rfl rfl (B rfl) (Yv.fieldBox rfl fo_73_0 (E rfl rfl)) ?_
 refine AWQ.y rfl rfl (B rfl) (Yv.fieldBox rfl fo_71_0 (E rfl rfl)) ?_
 refine AWQ.y rfl rfl (B rfl) (Yv.indexArr (j := d) rfl ar_69 (E rfl rfl) (E rfl rfl) (fun hg => ⟨rfl, hd⟩)) ?_
 refine AWQ.y rfl rfl (B rfl) (Yv.move rfl (E rfl rfl)) ?_
 refine AWQ.y rfl rfl (B rfl) (Yv.fieldBox rfl fo_57_2 (E rfl rfl)) ?_
 refine AWQ.y rfl rfl (B rfl) (Yv.loadBox rfl ag_3 (i := 1) rfl (E rfl rfl) rfl) ?_
 refine AWQ.y rfl rfl (B rfl) (Yv.nilChk rfl (E rfl rfl)) ?_
 refine AWQ.y rfl rfl (B rfl) (Yv.fieldBox rfl fo_73_0 (E rfl rfl)) ?_
 refine AWQ.y rfl rfl (B rfl) (Yv.fieldBox rfl fo_71_0 (E rfl rfl)) ?_
 refine AWQ.y rfl rfl (B rfl) (Yv.indexArr (j := 0) rfl ar_69 (E rfl rfl) (E rfl rfl) (fun hg => ⟨rfl, by decide⟩)) ?_
 refine AWQ.y rfl rfl (B rfl) (Yv.loadBox rfl ag_22 (i := 0) rfl (E rfl rfl) rfl) ?_
 refine AWQ.y rfl rfl (B rfl) (Yv.fieldBox rfl fo_57_5 (E rfl rfl)) ?_
 refine AWQ.y rfl rfl (B rfl) (Yv.loadBox rfl ag_2 (i := 1) rfl (E rfl rfl) rfl) ?_
 refine AWQ.y rfl rfl (B rfl) (Yv.convW rfl Tryz.underlying2 kd_22 (E rfl rfl)) ?_
 refine AWQ.y rfl rfl (B rfl) (Yv.assign rfl (E rfl rfl)) ?_
 refine AWQ.y rfl rfl (B rfl) (Yv.assign rfl (E rfl rfl)) ?_
 refine AWQ.y rfl rfl (B rfl) (Yv.assign rfl (E rfl rfl)) ?_
 refine AWQ.nil ?_
 refine AW.seq ?_
 refine AW.rseq ?_
 refine AWL.y rfl rfl (B rfl) (Yv.fieldBox rfl fo_57_0 (E rfl rfl)) ?_
 refine AWL.y rfl rfl (B rfl) (Yv.loadBox rfl ag_3 (i := 1) rfl (E rfl rfl) rfl) ?_
 refine AWL.nil ?_
 refine AW.block ?_
 refine AW.rseq ?_
 refine AWL.y rfl rfl (B rfl) (Yv.eql rfl (E rfl rfl) (E rfl rfl)) ?_
 refine AWL.y rfl rfl (B rfl) (Yv.assign rfl (E rfl rfl)) ?_
 refine AWL.nil ?_
 refine AW.cond rfl (fun h0t => ?_) (fun h0f => ?_)
 ·try replace h0t := of_decide_eq_true h0t
  exact absurd h0t (by show ¬ ((2 : Int) = 1); decide)
 try replace h0f := of_decide_eq_false h0f
 refine AW.rseq ?_
 refine AWL.y rfl rfl (B rfl) (Yv.eql rfl (E rfl rfl) (E rfl rfl)) ?_
 refine AWL.y rfl rfl (B rfl) (Yv.assign rfl (E rfl rfl)) ?_
 refine AWL.nil ?_
 refine AW.cond rfl (fun h1t => ?_) (fun h1f => ?_)
 ·try replace h1t := of_decide_eq_true h1t
  refine AW.region ?_
  refine AWL.y rfl rfl (B rfl) (Yv.move rfl (E rfl rfl)) ?_
  refine AWL.y rfl rfl (B rfl) (Yv.move rfl (E rfl rfl)) ?_
  refine AWL.y rfl rfl (B rfl) (Yv.nilChk rfl (E rfl rfl)) ?_
  refine AWL.storeBox (i := 0) rfl rfl rfl ag_22 rfl (E rfl rfl) (E rfl rfl) rfl rfl (by rw [mc_len]; omega) ?_
  refine AWL.nil ?_
  rw [mc_set s mm w kn (wI imm) hd]
  refine AW.dropAt 1 ?_
  refine AW.eqS (S' := [Ent.box mb 73 (mcC { s with r := updR s.r d (wI imm) } mm w kn)]) rfl ?_
  refine AW.rseq ?_
  refine AWL.y rfl rfl (B rfl) (Yv.assign rfl (E rfl rfl)) ?_
  refine AWL.nil ?_
  refine AW.ret (retI (.tmp rfl .nil) ?_)
  exact ⟨rfl, rfl⟩
 try replace h1f := of_decide_eq_false h1f
 exact absurd rfl h1f

set_option maxHeartbeats 4000000 in
theorem do41a (mb : Nat) (s : Ms) (mm w kn : T) (h1 : s.r 0 + 1#64 = 0#64) :
    ACalls Tryz.prog 41 [.v (.pointer (some ⟨mb, 0, none⟩)), insT ⟨15, 0, 0, 0, 0, 1⟩] [Ent.box mb 73 (mcC s mm w kn)] (fun t S => t = zi 0 ∧ ∃ o, S = [Ent.box mb 73 (mcC { s with r := updR s.r 0 0#64, fC := decide (carW (s.r 0) 1#64 = 1#64), fO := o, fZ := true, fS := false, fP := true } mm w kn)]) := by
 refine ACalls.intro Tryz.func41 rfl Tryz.ntmps41 (Nat.le_of_ble_eq_true rfl) rfl fun X w0 => ?_
 refine AW.rseq ?_
 refine AWL.boxOp rfl rfl (B rfl) rfl (E rfl rfl) rfl (fun b3 => ?_)
 refine AWL.y rfl rfl (B rfl) (Yv.assign rfl (E rfl rfl)) ?_
 refine AWL.nil ?_
 refine AW.rseqQ rfl (by kernel_rfl) ?_
 refine AWQ.y rfl rfl (B rfl) (Yv.move rfl (E rfl rfl)) ?_
 refine AWQ.y rfl rfl (B rfl) (Yv.fieldBox rfl fo_57_1 (E rfl rfl)) ?_
 refine AWQ.y rfl rfl (B rfl) (Yv.loadBox rfl ag_3 (i := 1) rfl (E rfl rfl) rfl) ?_
 refine AWQ.y rfl rfl (B rfl) (Yv.nilChk rfl (E rfl rfl)) ?_
 refine AWQ.y rfl rfl (B rfl) (Yv.fieldBox rfl fo_73_0 (E rfl rfl)) ?_
 refine AWQ.y rfl rfl (B rfl) (Yv.fieldBox rfl fo_71_0 (E rfl rfl)) ?_
 refine AWQ.y rfl rfl (B rfl) (Yv.indexArr (j := 0) rfl ar_69 (E rfl rfl) (E rfl rfl) (fun hg => ⟨rfl, by decide⟩)) ?_
 refine AWQ.y rfl rfl (B rfl) (Yv.move rfl (E rfl rfl)) ?_
 refine AWQ.y rfl rfl (B rfl) (Yv.fieldBox rfl fo_57_2 (E rfl rfl)) ?_
 refine AWQ.y rfl rfl (B rfl) (Yv.loadBox rfl ag_3 (i := 1) rfl (E rfl rfl) rfl) ?_
 refine AWQ.y rfl rfl (B rfl) (Yv.nilChk rfl (E rfl rfl)) ?_
 refine AWQ.y rfl rfl (B rfl) (Yv.fieldBox rfl fo_73_0 (E rfl rfl)) ?_
 refine AWQ.y rfl rfl (B rfl) (Yv.fieldBox rfl fo_71_0 (E rfl rfl)) ?_
 refine AWQ.y rfl rfl (B rfl) (Yv.indexArr (j := 0) rfl ar_69 (E rfl rfl) (E rfl rfl) (fun hg => ⟨rfl, by decide⟩)) ?_
 refine AWQ.y rfl rfl (B rfl) (Yv.loadBox rfl ag_22 (i := 0) rfl (E rfl rfl) rfl) ?_
 refine AWQ.y rfl rfl (B rfl) (Yv.fieldBox rfl fo_57_5 (E rfl rfl)) ?_
 refine AWQ.y rfl rfl (B rfl) (Yv.loadBox rfl ag_2 (i := 1) rfl (E rfl rfl) rfl) ?_
 refine AWQ.y rfl rfl (B rfl) (Yv.convW rfl Tryz.underlying2 kd_22 (E rfl rfl)) ?_
 refine AWQ.y rfl rfl (B rfl) (Yv.assign rfl (E rfl rfl)) ?_
 refine AWQ.y rfl rfl (B rfl) (Yv.assign rfl (E rfl rfl)) ?_
 refine AWQ.y rfl rfl (B rfl) (Yv.assign rfl (E rfl rfl)) ?_
 refine AWQ.nil ?_
 refine AW.seq ?_
 refine AW.rseq ?_
 refine AWL.y rfl rfl (B rfl) (Yv.fieldBox rfl fo_57_0 (E rfl rfl)) ?_
 refine AWL.y rfl rfl (B rfl) (Yv.loadBox rfl ag_3 (i := 1) rfl (E rfl rfl) rfl) ?_
 refine AWL.nil ?_
 refine AW.block ?_
 refine AW.rseq ?_
 refine AWL.y rfl rfl (B rfl) (Yv.eql rfl (E rfl rfl) (E rfl rfl)) ?_
 refine AWL.y rfl rfl (B rfl) (Yv.assign rfl (E rfl rfl)) ?_
 refine AWL.nil ?_
 refine AW.cond rfl (fun h0t => ?_) (fun h0f => ?_)
 ·try replace h0t := of_decide_eq_true h0t
  exact absurd h0t (by show ¬ ((15 : Int) = 1); decide)
 try replace h0f := of_decide_eq_false h0f
 refine AW.rseq ?_
 refine AWL.y rfl rfl (B rfl) (Yv.eql rfl (E rfl rfl) (E rfl rfl)) ?_
 refine AWL.y rfl rfl (B rfl) (Yv.assign rfl (E rfl rfl)) ?_
 refine AWL.nil ?_
 refine AW.cond rfl (fun h1t => ?_) (fun h1f => ?_)
 ·try replace h1t := of_decide_eq_true h1t
  exact absurd h1t (by show ¬ ((15 : Int) = 2); decide)
 try replace h1f := of_decide_eq_false h1f
 refine AW.rseq ?_
 refine AWL.y rfl rfl (B rfl) (Yv.eql rfl (E rfl rfl) (E rfl rfl)) ?_
 refine AWL.y rfl rfl (B rfl) (Yv.assign rfl (E rfl rfl)) ?_
 refine AWL.nil ?_
 refine AW.cond rfl (fun h2t => ?_) (fun h2f => ?_)
 ·try replace h2t := of_decide_eq_true h2t
  exact absurd h2t (by show ¬ ((15 : Int) = 5); decide)
 try replace h2f := of_decide_eq_false h2f
 refine AW.rseq ?_
 refine AWL.y rfl rfl (B rfl) (Yv.eql rfl (E rfl rfl) (E rfl rfl)) ?_
 refine AWL.y rfl rfl (B rfl) (Yv.assign rfl (E rfl rfl)) ?_
 refine AWL.nil ?_
 refine AW.cond rfl (fun h3t => ?_) (fun h3f => ?_)
 ·try replace h3t := of_decide_eq_true h3t
  exact absurd h3t (by show ¬ ((15 : Int) = 6); decide)
 try replace h3f := of_decide_eq_false h3f
 refine AW.rseq ?_
 refine AWL.y rfl rfl (B rfl) (Yv.eql rfl (E rfl rfl) (E rfl rfl)) ?_
 refine AWL.y rfl rfl (B rfl) (Yv.assign rfl (E rfl rfl)) ?_
 refine AWL.nil ?_
 refine AW.cond rfl (fun h4t => ?_) (fun h4f => ?_)
 ·try replace h4t := of_decide_eq_true h4t
  refine AW.region ?_
  refine AWL.y rfl rfl (B rfl) (Yv.move rfl (E rfl rfl)) ?_
  refine AWL.y rfl rfl (B rfl) (Yv.move rfl (E rfl rfl)) ?_
  refine AWL.y rfl rfl (B rfl) (Yv.move rfl (E rfl rfl)) ?_
  refine AWL.y rfl rfl (B rfl) (Yv.nilChk rfl (E rfl rfl)) ?_
  refine AWL.y rfl rfl (B rfl) (Yv.loadBox rfl ag_22 (i := 0) rfl (E rfl rfl) rfl) ?_
  refine AWL.y rfl rfl (B rfl) (Yv.move rfl (E rfl rfl)) ?_
  refine AWL.callF rfl rfl (B rfl) rfl ce_54 (E rfl rfl) (evsC (E rfl rfl) (evsC (E rfl rfl) (evsC (E rfl rfl) (evsC (E rfl rfl) evs0)))) (F1 := []) (S1 := [Ent.box mb 73 (mcC s mm w kn)]) (F2 := [Ent.box b3 57 (insCells ⟨15, 0, 0, 0, 0, 1⟩)]) rfl (sum54 mb s mm w kn (s.r 0) 1#64 h1) ?_
  rintro t66 S66 ⟨rfl, o, rfl⟩
  refine AWL.y rfl rfl (B rfl) (Yv.nilChk rfl (E rfl rfl)) ?_
  refine AWL.storeBox (i := 0) rfl rfl rfl ag_22 rfl (E rfl rfl) (E rfl rfl) rfl rfl (Nat.le_of_ble_eq_true rfl) ?_
  refine AWL.nil ?_
  refine AW.dropAt 1 ?_
  refine AW.rseq ?_
  refine AWL.y rfl rfl (B rfl) (Yv.assign rfl (E rfl rfl)) ?_
  refine AWL.nil ?_
  refine AW.ret (retI (.tmp rfl .nil) ?_)
  exact ⟨rfl, o, rfl⟩
 try replace h4f := of_decide_eq_false h4f
 exact absurd rfl h4f

set_option maxHeartbeats 4000000 in
theorem do41s (mb : Nat) (s : Ms) (mm w kn : T) (hr0 : s.r 0 = 60#64) (hr7 : s.r 7 = 300#64) :
    ACalls Tryz.prog 41 [.v (.pointer (some ⟨mb, 0, none⟩)), insT ⟨43, 0, 0, 0, 0, 0⟩] [Ent.box mb 73 (mcC s mm w kn)] (fun t S => t = zi 1 ∧ S = [Ent.box mb 73 (mcC { s with code := 44 } mm w kn)]) := by
 refine ACalls.intro Tryz.func41 rfl Tryz.ntmps41 (Nat.le_of_ble_eq_true rfl) rfl fun X w0 => ?_
 refine AW.rseq ?_
 refine AWL.boxOp rfl rfl (B rfl) rfl (E rfl rfl) rfl (fun b3 => ?_)
 refine AWL.y rfl rfl (B rfl) (Yv.assign rfl (E rfl rfl)) ?_
 refine AWL.nil ?_
 refine AW.rseqQ rfl (by kernel_rfl) ?_
 refine AWQ.y rfl rfl (B rfl) (Yv.move rfl (E rfl rfl)) ?_
 refine AWQ.y rfl rfl (B rfl) (Yv.fieldBox rfl fo_57_1 (E rfl rfl)) ?_
 refine AWQ.y rfl rfl (B rfl) (Yv.loadBox rfl ag_3 (i := 1) rfl (E rfl rfl) rfl) ?_
 refine AWQ.y rfl rfl (B rfl) (Yv.nilChk rfl (E rfl rfl)) ?_
 refine AWQ.y rfl rfl (B rfl) (Yv.fieldBox rfl fo_73_0 (E rfl rfl)) ?_
 refine AWQ.y rfl rfl (B rfl) (Yv.fieldBox rfl fo_71_0 (E rfl rfl)) ?_
 refine AWQ.y rfl rfl (B rfl) (Yv.indexArr (j := 0) rfl ar_69 (E rfl rfl) (E rfl rfl) (fun hg => ⟨rfl, by decide⟩)) ?_
 refine AWQ.y rfl rfl (B rfl) (Yv.move rfl (E rfl rfl)) ?_
 refine AWQ.y rfl rfl (B rfl) (Yv.fieldBox rfl fo_57_2 (E rfl rfl)) ?_
 refine AWQ.y rfl rfl (B rfl) (Yv.loadBox rfl ag_3 (i := 1) rfl (E rfl rfl) rfl) ?_
 refine AWQ.y rfl rfl (B rfl) (Yv.nilChk rfl (E rfl rfl)) ?_
 refine AWQ.y rfl rfl (B rfl) (Yv.fieldBox rfl fo_73_0 (E rfl rfl)) ?_
 refine AWQ.y rfl rfl (B rfl) (Yv.fieldBox rfl fo_71_0 (E rfl rfl)) ?_
 refine AWQ.y rfl rfl (B rfl) (Yv.indexArr (j := 0) rfl ar_69 (E rfl rfl) (E rfl rfl) (fun hg => ⟨rfl, by decide⟩)) ?_
 refine AWQ.y rfl rfl (B rfl) (Yv.loadBox rfl ag_22 (i := 0) rfl (E rfl rfl) rfl) ?_
 refine AWQ.y rfl rfl (B rfl) (Yv.fieldBox rfl fo_57_5 (E rfl rfl)) ?_
 refine AWQ.y rfl rfl (B rfl) (Yv.loadBox rfl ag_2 (i := 1) rfl (E rfl rfl) rfl) ?_
 refine AWQ.y rfl rfl (B rfl) (Yv.convW rfl Tryz.underlying2 kd_22 (E rfl rfl)) ?_
 refine AWQ.y rfl rfl (B rfl) (Yv.assign rfl (E rfl rfl)) ?_
 refine AWQ.y rfl rfl (B rfl) (Yv.assign rfl (E rfl rfl)) ?_
 refine AWQ.y rfl rfl (B rfl) (Yv.assign rfl (E rfl rfl)) ?_
 refine AWQ.nil ?_
 refine AW.seq ?_
 refine AW.rseq ?_
 refine AWL.y rfl rfl (B rfl) (Yv.fieldBox rfl fo_57_0 (E rfl rfl)) ?_
 refine AWL.y rfl rfl (B rfl) (Yv.loadBox rfl ag_3 (i := 1) rfl (E rfl rfl) rfl) ?_
 refine AWL.nil ?_
 refine AW.block ?_
 refine AW.rseq ?_
 refine AWL.y rfl rfl (B rfl) (Yv.eql rfl (E rfl rfl) (E rfl rfl)) ?_
 refine AWL.y rfl rfl (B rfl) (Yv.assign rfl (E rfl rfl)) ?_
 refine AWL.nil ?_
 refine AW.cond rfl (fun h0t => ?_) (fun h0f => ?_)
 ·try replace h0t := of_decide_eq_true h0t
  exact absurd h0t (by show ¬ ((43 : Int) = 1); decide)
 try replace h0f := of_decide_eq_false h0f
 refine AW.rseq ?_
 refine AWL.y rfl rfl (B rfl) (Yv.eql rfl (E rfl rfl) (E rfl rfl)) ?_
 refine AWL.y rfl rfl (B rfl) (Yv.assign rfl (E rfl rfl)) ?_
 refine AWL.nil ?_
 refine AW.cond rfl (fun h1t => ?_) (fun h1f => ?_)
 ·try replace h1t := of_decide_eq_true h1t
  exact absurd h1t (by show ¬ ((43 : Int) = 2); decide)
 try replace h1f := of_decide_eq_false h1f
 refine AW.rseq ?_
 refine AWL.y rfl rfl (B rfl) (Yv.eql rfl (E rfl rfl) (E rfl rfl)) ?_
 refine AWL.y rfl rfl (B rfl) (Yv.assign rfl (E rfl rfl)) ?_
 refine AWL.nil ?_
 refine AW.cond rfl (fun h2t => ?_) (fun h2f => ?_)
 ·try replace h2t := of_decide_eq_true h2t
  exact absurd h2t (by show ¬ ((43 : Int) = 5); decide)
 try replace h2f := of_decide_eq_false h2f
 refine AW.rseq ?_
 refine AWL.y rfl rfl (B rfl) (Yv.eql rfl (E rfl rfl) (E rfl rfl)) ?_
 refine AWL.y rfl rfl (B rfl) (Yv.assign rfl (E rfl rfl)) ?_
 refine AWL.nil ?_
 refine AW.cond rfl (fun h3t => ?_) (fun h3f => ?_)
 ·try replace h3t := of_decide_eq_true h3t
  exact absurd h3t (by show ¬ ((43 : Int) = 6); decide)
 try replace h3f := of_decide_eq_false h3f
 refine AW.rseq ?_
 refine AWL.y rfl rfl (B rfl) (Yv.eql rfl (E rfl rfl) (E rfl rfl)) ?_
 refine AWL.y rfl rfl (B rfl) (Yv.assign rfl (E rfl rfl)) ?_
 refine AWL.nil ?_
 refine AW.cond rfl (fun h4t => ?_) (fun h4f => ?_)
 ·try replace h4t := of_decide_eq_true h4t
  exact absurd h4t (by show ¬ ((43 : Int) = 15); decide)
 try replace h4f := of_decide_eq_false h4f
 refine AW.rseq ?_
 refine AWL.y rfl rfl (B rfl) (Yv.eql rfl (E rfl rfl) (E rfl rfl)) ?_
 refine AWL.y rfl rfl (B rfl) (Yv.assign rfl (E rfl rfl)) ?_
 refine AWL.nil ?_
 refine AW.cond rfl (fun h5t => ?_) (fun h5f => ?_)
 ·try replace h5t := of_decide_eq_true h5t
  exact absurd h5t (by show ¬ ((43 : Int) = 8); decide)
 try replace h5f := of_decide_eq_false h5f
 refine AW.rseq ?_
 refine AWL.y rfl rfl (B rfl) (Yv.eql rfl (E rfl rfl) (E rfl rfl)) ?_
 refine AWL.y rfl rfl (B rfl) (Yv.assign rfl (E rfl rfl)) ?_
 refine AWL.nil ?_
 refine AW.cond rfl (fun h6t => ?_) (fun h6f => ?_)
 ·try replace h6t := of_decide_eq_true h6t
  exact absurd h6t (by show ¬ ((43 : Int) = 11); decide)
 try replace h6f := of_decide_eq_false h6f
 refine AW.rseq ?_
 refine AWL.y rfl rfl (B rfl) (Yv.eql rfl (E rfl rfl) (E rfl rfl)) ?_
 refine AWL.y rfl rfl (B rfl) (Yv.assign rfl (E rfl rfl)) ?_
 refine AWL.nil ?_
 refine AW.cond rfl (fun h7t => ?_) (fun h7f => ?_)
 ·try replace h7t := of_decide_eq_true h7t
  exact absurd h7t (by show ¬ ((43 : Int) = 18); decide)
 try replace h7f := of_decide_eq_false h7f
 refine AW.rseq ?_
 refine AWL.y rfl rfl (B rfl) (Yv.eql rfl (E rfl rfl) (E rfl rfl)) ?_
 refine AWL.y rfl rfl (B rfl) (Yv.assign rfl (E rfl rfl)) ?_
 refine AWL.nil ?_
 refine AW.cond rfl (fun h8t => ?_) (fun h8f => ?_)
 ·try replace h8t := of_decide_eq_true h8t
  exact absurd h8t (by show ¬ ((43 : Int) = 9); decide)
 try replace h8f := of_decide_eq_false h8f
 refine AW.rseq ?_
 refine AWL.y rfl rfl (B rfl) (Yv.eql rfl (E rfl rfl) (E rfl rfl)) ?_
 refine AWL.y rfl rfl (B rfl) (Yv.assign rfl (E rfl rfl)) ?_
 refine AWL.nil ?_
 refine AW.cond rfl (fun h9t => ?_) (fun h9f => ?_)
 ·try replace h9t := of_decide_eq_true h9t
  exact absurd h9t (by show ¬ ((43 : Int) = 13); decide)
 try replace h9f := of_decide_eq_false h9f
 refine AW.rseq ?_
 refine AWL.y rfl rfl (B rfl) (Yv.eql rfl (E rfl rfl) (E rfl rfl)) ?_
 refine AWL.y rfl rfl (B rfl) (Yv.assign rfl (E rfl rfl)) ?_
 refine AWL.nil ?_
 refine AW.cond rfl (fun h10t => ?_) (fun h10f => ?_)
 ·try replace h10t := of_decide_eq_true h10t
  exact absurd h10t (by show ¬ ((43 : Int) = 20); decide)
 try replace h10f := of_decide_eq_false h10f
 refine AW.rseq ?_
 refine AWL.y rfl rfl (B rfl) (Yv.eql rfl (E rfl rfl) (E rfl rfl)) ?_
 refine AWL.y rfl rfl (B rfl) (Yv.assign rfl (E rfl rfl)) ?_
 refine AWL.nil ?_
 refine AW.cond rfl (fun h11t => ?_) (fun h11f => ?_)
 ·try replace h11t := of_decide_eq_true h11t
  exact absurd h11t (by show ¬ ((43 : Int) = 24); decide)
 try replace h11f := of_decide_eq_false h11f
 refine AW.rseq ?_
 refine AWL.y rfl rfl (B rfl) (Yv.eql rfl (E rfl rfl) (E rfl rfl)) ?_
 refine AWL.y rfl rfl (B rfl) (Yv.assign rfl (E rfl rfl)) ?_
 refine AWL.nil ?_
 refine AW.cond rfl (fun h12t => ?_) (fun h12f => ?_)
 ·try replace h12t := of_decide_eq_true h12t
  exact absurd h12t (by show ¬ ((43 : Int) = 25); decide)
 try replace h12f := of_decide_eq_false h12f
 refine AW.rseq ?_
 refine AWL.y rfl rfl (B rfl) (Yv.eql rfl (E rfl rfl) (E rfl rfl)) ?_
 refine AWL.y rfl rfl (B rfl) (Yv.assign rfl (E rfl rfl)) ?_
 refine AWL.nil ?_
 refine AW.cond rfl (fun h13t => ?_) (fun h13f => ?_)
 ·try replace h13t := of_decide_eq_true h13t
  exact absurd h13t (by show ¬ ((43 : Int) = 10); decide)
 try replace h13f := of_decide_eq_false h13f
 refine AW.rseq ?_
 refine AWL.y rfl rfl (B rfl) (Yv.eql rfl (E rfl rfl) (E rfl rfl)) ?_
 refine AWL.y rfl rfl (B rfl) (Yv.assign rfl (E rfl rfl)) ?_
 refine AWL.nil ?_
 refine AW.cond rfl (fun h14t => ?_) (fun h14f => ?_)
 ·try replace h14t := of_decide_eq_true h14t
  exact absurd h14t (by show ¬ ((43 : Int) = 7); decide)
 try replace h14f := of_decide_eq_false h14f
 refine AW.rseq ?_
 refine AWL.y rfl rfl (B rfl) (Yv.eql rfl (E rfl rfl) (E rfl rfl)) ?_
 refine AWL.y rfl rfl (B rfl) (Yv.assign rfl (E rfl rfl)) ?_
 refine AWL.nil ?_
 refine AW.cond rfl (fun h15t => ?_) (fun h15f => ?_)
 ·try replace h15t := of_decide_eq_true h15t
  exact absurd h15t (by show ¬ ((43 : Int) = 12); decide)
 try replace h15f := of_decide_eq_false h15f
 refine AW.rseq ?_
 refine AWL.y rfl rfl (B rfl) (Yv.eql rfl (E rfl rfl) (E rfl rfl)) ?_
 refine AWL.y rfl rfl (B rfl) (Yv.assign rfl (E rfl rfl)) ?_
 refine AWL.nil ?_
 refine AW.cond rfl (fun h16t => ?_) (fun h16f => ?_)
 ·try replace h16t := of_decide_eq_true h16t
  exact absurd h16t (by show ¬ ((43 : Int) = 14); decide)
 try replace h16f := of_decide_eq_false h16f
 refine AW.rseq ?_
 refine AWL.y rfl rfl (B rfl) (Yv.eql rfl (E rfl rfl) (E rfl rfl)) ?_
 refine AWL.y rfl rfl (B rfl) (Yv.assign rfl (E rfl rfl)) ?_
 refine AWL.nil ?_
 refine AW.cond rfl (fun h17t => ?_) (fun h17f => ?_)
 ·try replace h17t := of_decide_eq_true h17t
  exact absurd h17t (by show ¬ ((43 : Int) = 17); decide)
 try replace h17f := of_decide_eq_false h17f
 refine AW.rseq ?_
 refine AWL.y rfl rfl (B rfl) (Yv.eql rfl (E rfl rfl) (E rfl rfl)) ?_
 refine AWL.y rfl rfl (B rfl) (Yv.assign rfl (E rfl rfl)) ?_
 refine AWL.nil ?_
 refine AW.cond rfl (fun h18t => ?_) (fun h18f => ?_)
 ·try replace h18t := of_decide_eq_true h18t
  exact absurd h18t (by show ¬ ((43 : Int) = 16); decide)
 try replace h18f := of_decide_eq_false h18f
 refine AW.rseq ?_
 refine AWL.y rfl rfl (B rfl) (Yv.eql rfl (E rfl rfl) (E rfl rfl)) ?_
 refine AWL.y rfl rfl (B rfl) (Yv.assign rfl (E rfl rfl)) ?_
 refine AWL.nil ?_
 refine AW.cond rfl (fun h19t => ?_) (fun h19f => ?_)
 ·try replace h19t := of_decide_eq_true h19t
  exact absurd h19t (by show ¬ ((43 : Int) = 19); decide)
 try replace h19f := of_decide_eq_false h19f
 refine AW.rseq ?_
 refine AWL.y rfl rfl (B rfl) (Yv.eql rfl (E rfl rfl) (E rfl rfl)) ?_
 refine AWL.y rfl rfl (B rfl) (Yv.assign rfl (E rfl rfl)) ?_
 refine AWL.nil ?_
 refine AW.cond rfl (fun h20t => ?_) (fun h20f => ?_)
 ·try replace h20t := of_decide_eq_true h20t
  exact absurd h20t (by show ¬ ((43 : Int) = 33); decide)
 try replace h20f := of_decide_eq_false h20f
 refine AW.rseq ?_
 refine AWL.y rfl rfl (B rfl) (Yv.eql rfl (E rfl rfl) (E rfl rfl)) ?_
 refine AWL.y rfl rfl (B rfl) (Yv.assign rfl (E rfl rfl)) ?_
 refine AWL.nil ?_
 refine AW.cond rfl (fun h21t => ?_) (fun h21f => ?_)
 ·try replace h21t := of_decide_eq_true h21t
  exact absurd h21t (by show ¬ ((43 : Int) = 34); decide)
 try replace h21f := of_decide_eq_false h21f
 refine AW.rseq ?_
 refine AWL.y rfl rfl (B rfl) (Yv.eql rfl (E rfl rfl) (E rfl rfl)) ?_
 refine AWL.y rfl rfl (B rfl) (Yv.assign rfl (E rfl rfl)) ?_
 refine AWL.nil ?_
 refine AW.cond rfl (fun h22t => ?_) (fun h22f => ?_)
 ·try replace h22t := of_decide_eq_true h22t
  exact absurd h22t (by show ¬ ((43 : Int) = 32); decide)
 try replace h22f := of_decide_eq_false h22f
 refine AW.rseq ?_
 refine AWL.y rfl rfl (B rfl) (Yv.eql rfl (E rfl rfl) (E rfl rfl)) ?_
 refine AWL.y rfl rfl (B rfl) (Yv.assign rfl (E rfl rfl)) ?_
 refine AWL.nil ?_
 refine AW.cond rfl (fun h23t => ?_) (fun h23f => ?_)
 ·try replace h23t := of_decide_eq_true h23t
  exact absurd h23t (by show ¬ ((43 : Int) = 44); decide)
 try replace h23f := of_decide_eq_false h23f
 refine AW.rseq ?_
 refine AWL.y rfl rfl (B rfl) (Yv.eql rfl (E rfl rfl) (E rfl rfl)) ?_
 refine AWL.y rfl rfl (B rfl) (Yv.assign rfl (E rfl rfl)) ?_
 refine AWL.nil ?_
 refine AW.cond rfl (fun h24t => ?_) (fun h24f => ?_)
 ·try replace h24t := of_decide_eq_true h24t
  refine AW.dropAt 1 ?_
  refine AW.rseq ?_
  refine AWL.y rfl rfl (B rfl) (Yv.move rfl (E rfl rfl)) ?_
  refine AWL.callF rfl rfl (B rfl) rfl ce_59 (E rfl rfl) (evsC (E rfl rfl) evs0) (F1 := []) (S1 := [Ent.box mb 73 (mcC s mm w kn)]) (F2 := []) rfl (call59 mb s mm w kn hr0 hr7) ?_
  rintro t256 S256 ⟨rfl, rfl⟩
  refine AWL.y rfl rfl (B rfl) (Yv.assign rfl (E rfl rfl)) ?_
  refine AWL.nil ?_
  refine AW.ret (retI (.tmp rfl .nil) ?_)
  exact ⟨rfl, rfl⟩
 try replace h24f := of_decide_eq_false h24f
 exact absurd rfl h24f

end Go.Proofs.YtecpjlhbkmongaaGreat.M

namespace Go.Proofs.YtecpjlhbkmongaaGreat
open Go
theorem ag_112 : aggSize Tryz.prog 112 = some (false, 1) := by kernel_rfl
theorem ag_114 : aggSize Tryz.prog 114 = some (true, 12) := by kernel_rfl
theorem ag_183 : aggSize Tryz.prog 183 = some (true, 3) := by kernel_rfl
theorem ag_2 : aggSize Tryz.prog 2 = some (false, 1) := by kernel_rfl
theorem ag_27 : aggSize Tryz.prog 27 = some (false, 1) := by kernel_rfl
theorem ag_3 : aggSize Tryz.prog 3 = some (false, 1) := by kernel_rfl
theorem ag_4 : aggSize Tryz.prog 4 = some (false, 1) := by kernel_rfl
theorem ag_5 : aggSize Tryz.prog 5 = some (false, 1) := by kernel_rfl
theorem ag_57 : aggSize Tryz.prog 57 = some (true, 6) := by kernel_rfl
theorem ce_100 : calleeB Tryz.prog 100 = true := by kernel_rfl
theorem ce_101 : calleeB Tryz.prog 101 = true := by kernel_rfl
theorem ce_102 : calleeB Tryz.prog 102 = true := by kernel_rfl
theorem ce_103 : calleeB Tryz.prog 103 = true := by kernel_rfl
theorem ce_113 : calleeB Tryz.prog 113 = true := by kernel_rfl
theorem ce_114 : calleeB Tryz.prog 114 = true := by kernel_rfl
theorem ce_115 : calleeB Tryz.prog 115 = true := by kernel_rfl
theorem ce_116 : calleeB Tryz.prog 116 = true := by kernel_rfl
theorem ce_117 : calleeB Tryz.prog 117 = true := by kernel_rfl
theorem ce_118 : calleeB Tryz.prog 118 = true := by kernel_rfl
theorem ce_119 : calleeB Tryz.prog 119 = true := by kernel_rfl
theorem ce_120 : calleeB Tryz.prog 120 = true := by kernel_rfl
theorem ce_121 : calleeB Tryz.prog 121 = true := by kernel_rfl
theorem ce_123 : calleeB Tryz.prog 123 = true := by kernel_rfl
theorem ce_37 : calleeB Tryz.prog 37 = true := by kernel_rfl
theorem ce_38 : calleeB Tryz.prog 38 = true := by kernel_rfl
theorem ce_39 : calleeB Tryz.prog 39 = true := by kernel_rfl
theorem ce_45 : calleeB Tryz.prog 45 = true := by kernel_rfl
theorem ce_46 : calleeB Tryz.prog 46 = true := by kernel_rfl
theorem ce_47 : calleeB Tryz.prog 47 = true := by kernel_rfl
theorem ce_48 : calleeB Tryz.prog 48 = true := by kernel_rfl
theorem ce_49 : calleeB Tryz.prog 49 = true := by kernel_rfl
theorem ce_50 : calleeB Tryz.prog 50 = true := by kernel_rfl
theorem ce_51 : calleeB Tryz.prog 51 = true := by kernel_rfl
theorem ce_74 : calleeB Tryz.prog 74 = true := by kernel_rfl
theorem ce_75 : calleeB Tryz.prog 75 = true := by kernel_rfl
theorem ce_76 : calleeB Tryz.prog 76 = true := by kernel_rfl
theorem ce_98 : calleeB Tryz.prog 98 = true := by kernel_rfl
theorem ce_99 : calleeB Tryz.prog 99 = true := by kernel_rfl
theorem el_110 : elemOf Tryz.prog 110 = some (114, 12, 112, [.int .i64 0, .int .i64 0, .int .i64 0, .bool false, .int .i64 0, .slice none 0 0, .int .i64 0, .int .i64 0, .int .i64 0, .int .i64 0, .int .i64 0, .int .i64 0]) := by kernel_rfl
theorem el_112 : elemOf Tryz.prog 112 = some (3, 1, 8, [.int .i64 0]) := by kernel_rfl
theorem el_27 : elemOf Tryz.prog 27 = some (5, 1, 1, [.int .u8 0]) := by kernel_rfl
theorem fo_114_0 : fieldOff Tryz.prog 114 0 = some 0 := by kernel_rfl
theorem fo_114_1 : fieldOff Tryz.prog 114 1 = some 1 := by kernel_rfl
theorem fo_114_10 : fieldOff Tryz.prog 114 10 = some 10 := by kernel_rfl
theorem fo_114_11 : fieldOff Tryz.prog 114 11 = some 11 := by kernel_rfl
theorem fo_114_2 : fieldOff Tryz.prog 114 2 = some 2 := by kernel_rfl
theorem fo_114_3 : fieldOff Tryz.prog 114 3 = some 3 := by kernel_rfl
theorem fo_114_4 : fieldOff Tryz.prog 114 4 = some 4 := by kernel_rfl
theorem fo_114_5 : fieldOff Tryz.prog 114 5 = some 5 := by kernel_rfl
theorem fo_114_6 : fieldOff Tryz.prog 114 6 = some 6 := by kernel_rfl
theorem fo_114_7 : fieldOff Tryz.prog 114 7 = some 7 := by kernel_rfl
theorem fo_114_8 : fieldOff Tryz.prog 114 8 = some 8 := by kernel_rfl
theorem fo_114_9 : fieldOff Tryz.prog 114 9 = some 9 := by kernel_rfl
theorem fo_155_0 : fieldOff Tryz.prog 155 0 = some 0 := by kernel_rfl
theorem fo_155_1 : fieldOff Tryz.prog 155 1 = some 1 := by kernel_rfl
theorem fo_155_2 : fieldOff Tryz.prog 155 2 = some 2 := by kernel_rfl
theorem fo_155_3 : fieldOff Tryz.prog 155 3 = some 3 := by kernel_rfl
theorem fo_183_0 : fieldOff Tryz.prog 183 0 = some 0 := by kernel_rfl
theorem fo_183_1 : fieldOff Tryz.prog 183 1 = some 1 := by kernel_rfl
theorem fo_183_2 : fieldOff Tryz.prog 183 2 = some 2 := by kernel_rfl
theorem fo_57_0 : fieldOff Tryz.prog 57 0 = some 0 := by kernel_rfl
theorem fo_57_1 : fieldOff Tryz.prog 57 1 = some 1 := by kernel_rfl
theorem fo_57_2 : fieldOff Tryz.prog 57 2 = some 2 := by kernel_rfl
theorem fo_57_3 : fieldOff Tryz.prog 57 3 = some 3 := by kernel_rfl
theorem fo_57_4 : fieldOff Tryz.prog 57 4 = some 4 := by kernel_rfl
theorem fo_57_5 : fieldOff Tryz.prog 57 5 = some 5 := by kernel_rfl
theorem kd_2 : kindOf Tryz.prog 2 = some .i64 := by kernel_rfl
theorem kd_22 : kindOf Tryz.prog 22 = some .u64 := by kernel_rfl
theorem kd_3 : kindOf Tryz.prog 3 = some .i64 := by kernel_rfl
theorem kd_5 : kindOf Tryz.prog 5 = some .u8 := by kernel_rfl
theorem sh_114 : structShape Tryz.prog 114 = some ([.int .i64 0, .int .i64 0, .int .i64 0, .bool false, .int .i64 0, .slice none 0 0, .int .i64 0, .int .i64 0, .int .i64 0, .int .i64 0, .int .i64 0, .int .i64 0], [(0, 1), (1, 1), (2, 1), (3, 1), (4, 1), (5, 1), (6, 1), (7, 1), (8, 1), (9, 1), (10, 1), (11, 1)]) := by kernel_rfl
theorem sh_155 : structShape Tryz.prog 155 = some ([.slice none 0 0, .int .i64 0, .bool false, .bool false], [(0, 1), (1, 1), (2, 1), (3, 1)]) := by kernel_rfl
theorem sh_183 : structShape Tryz.prog 183 = some ([.int .i64 0, .int .i64 0, .int .i64 0], [(0, 1), (1, 1), (2, 1)]) := by kernel_rfl
theorem sh_57 : structShape Tryz.prog 57 = some ([.int .i64 0, .int .i64 0, .int .i64 0, .int .i64 0, .int .i64 0, .int .i64 0], [(0, 1), (1, 1), (2, 1), (3, 1), (4, 1), (5, 1)]) := by kernel_rfl
theorem so_110 : sliceOf Tryz.prog 110 = some 114 := by kernel_rfl
theorem so_112 : sliceOf Tryz.prog 112 = some 3 := by kernel_rfl
theorem so_27 : sliceOf Tryz.prog 27 = some 5 := by kernel_rfl
theorem ss_110 : sliceSz Tryz.prog 110 = some (114, 12) := by kernel_rfl
theorem ss_112 : sliceSz Tryz.prog 112 = some (3, 1) := by kernel_rfl
theorem ss_27 : sliceSz Tryz.prog 27 = some (5, 1) := by kernel_rfl
theorem zc_114 : zeroCellsOf Tryz.prog 114 = some [.int .i64 0, .int .i64 0, .int .i64 0, .bool false, .int .i64 0, .slice none 0 0, .int .i64 0, .int .i64 0, .int .i64 0, .int .i64 0, .int .i64 0, .int .i64 0] := by kernel_rfl
theorem zc_183 : zeroCellsOf Tryz.prog 183 = some [.int .i64 0, .int .i64 0, .int .i64 0] := by kernel_rfl
theorem zc_57 : zeroCellsOf Tryz.prog 57 = some [.int .i64 0, .int .i64 0, .int .i64 0, .int .i64 0, .int .i64 0, .int .i64 0] := by kernel_rfl
end Go.Proofs.YtecpjlhbkmongaaGreat

namespace Go.Proofs.YtecpjlhbkmongaaGreat
open Go Go.RowKit

set_option maxHeartbeats 400000 in
theorem in47 (n lo hi : Int) :
    ACalls Tryz.prog 123 [.v (.int .i64 n), .v (.int .i64 lo), .v (.int .i64 hi)] [] fun t_ S => t_ = .v (.bool (inF n lo hi)) := by
 refine ACalls.intro Tryz.func123 rfl Tryz.ntmps123 nB rfl fun X w0 => ?_
 refine ra ?_
 refine rs (ym ?_)
 refine ym ?_
 refine Y1 (Yv.geq rfl eV eV) ?_
 refine ym ?_
 refine gT (Yv.move rfl eV) ?_
 refine gT (Yv.move rfl eV) ?_
 refine gT (Yv.leq rfl (Eg rfl rfl id) (Eg rfl rfl id)) ?_
 refine Y1 (Yv.pickAnd rfl eV (Eg rfl rfl id)) ?_
 refine ya ?_
 refine AW.ret (retI (.tmp rfl .nil) ?_)
 rfl

set_option maxHeartbeats 400000 in
theorem small38 (n : Int) :
    ACalls Tryz.prog 115 [.v (.int .i64 n)] [] fun t_ S => t_ = .v (.bool (smallF n)) := by
 refine ACalls.intro Tryz.func115 rfl Tryz.ntmps115 nB rfl fun X w0 => ?_
 refine ra ?_
 refine rs (ym ?_)
 refine AWL.callP rfl rfl (B rfl) rfl ce_123 (E rfl rfl) (evsC (E rfl rfl) (evsC (E rfl rfl) (evsC (E rfl rfl) evs0))) (in47 n _ _) (fun t S h => h) ?_
 refine ya ?_
 refine AW.ret (retI (.tmp rfl .nil) ?_)
 rfl

set_option maxHeartbeats 2000000 in
theorem opcode33 (k : Int) :
    ACalls Tryz.prog 120 [.v (.int .i64 k)] [] fun t_ S => t_ = .tup [.v (.int .i64 (opF k).1), .v (.int .i64 (opF k).2)] := by
 refine ACalls.intro Tryz.func120 rfl Tryz.ntmps120 nB rfl fun X w0 => ?_
 refine rs (Y1 (Yv.assign rfl eV) ?_)
 refine ya ?_
 refine AW.seq ?_
 refine rs (ym (nl ?_))
 refine AW.block ?_
 refine rs (Y1 (Yv.eql rfl eV eV) ?_)
 refine ya ?_
 refine AW.cond rfl (fun h0t => ?_) (fun h0f => ?_)
 ·
  try replace h0t := odt h0t
  refine rs (Y1 (Yv.assign rfl eV) ?_)
  refine ya ?_
  refine AW.ret (retI (.tmp rfl (.tmp rfl .nil)) ?_)
  rw [h0t]; rfl
 try replace h0f := odf h0f
 refine rs (Y1 (Yv.eql rfl eV eV) ?_)
 refine ya ?_
 refine AW.cond rfl (fun h1t => ?_) (fun h1f => ?_)
 ·
  try replace h1t := odt h1t
  refine rs (Y1 (Yv.assign rfl eV) ?_)
  refine ya ?_
  refine AW.ret (retI (.tmp rfl (.tmp rfl .nil)) ?_)
  rw [h1t]; rfl
 try replace h1f := odf h1f
 refine rs (Y1 (Yv.eql rfl eV eV) ?_)
 refine ya ?_
 refine AW.cond rfl (fun h2t => ?_) (fun h2f => ?_)
 ·
  try replace h2t := odt h2t
  refine rs (Y1 (Yv.assign rfl eV) ?_)
  refine ya ?_
  refine AW.ret (retI (.tmp rfl (.tmp rfl .nil)) ?_)
  rw [h2t]; rfl
 try replace h2f := odf h2f
 refine rs (Y1 (Yv.eql rfl eV eV) ?_)
 refine ya ?_
 refine AW.cond rfl (fun h3t => ?_) (fun h3f => ?_)
 ·
  try replace h3t := odt h3t
  refine rs (Y1 (Yv.assign rfl eV) ?_)
  refine ya ?_
  refine AW.ret (retI (.tmp rfl (.tmp rfl .nil)) ?_)
  rw [h3t]; rfl
 try replace h3f := odf h3f
 refine rs (Y1 (Yv.eql rfl eV eV) ?_)
 refine ya ?_
 refine AW.cond rfl (fun h4t => ?_) (fun h4f => ?_)
 ·
  try replace h4t := odt h4t
  refine rs (Y1 (Yv.assign rfl eV) ?_)
  refine ya ?_
  refine AW.ret (retI (.tmp rfl (.tmp rfl .nil)) ?_)
  rw [h4t]; rfl
 try replace h4f := odf h4f
 refine rs (Y1 (Yv.eql rfl eV eV) ?_)
 refine ya ?_
 refine AW.cond rfl (fun h5t => ?_) (fun h5f => ?_)
 ·
  try replace h5t := odt h5t
  refine rs (Y1 (Yv.assign rfl eV) ?_)
  refine ya ?_
  refine AW.ret (retI (.tmp rfl (.tmp rfl .nil)) ?_)
  rw [h5t]; rfl
 try replace h5f := odf h5f
 refine rs (Y1 (Yv.eql rfl eV eV) ?_)
 refine ya ?_
 refine AW.cond rfl (fun h6t => ?_) (fun h6f => ?_)
 ·
  try replace h6t := odt h6t
  refine rs (Y1 (Yv.assign rfl eV) ?_)
  refine ya ?_
  refine AW.ret (retI (.tmp rfl (.tmp rfl .nil)) ?_)
  rw [h6t]; rfl
 try replace h6f := odf h6f
 refine rs (Y1 (Yv.eql rfl eV eV) ?_)
 refine ya ?_
 refine AW.cond rfl (fun h7t => ?_) (fun h7f => ?_)
 ·
  try replace h7t := odt h7t
  refine rs (Y1 (Yv.assign rfl eV) ?_)
  refine ya ?_
  refine AW.ret (retI (.tmp rfl (.tmp rfl .nil)) ?_)
  rw [h7t]; rfl
 try replace h7f := odf h7f
 refine rs (Y1 (Yv.eql rfl eV eV) ?_)
 refine ya ?_
 refine AW.cond rfl (fun h8t => ?_) (fun h8f => ?_)
 ·
  try replace h8t := odt h8t
  refine rs (Y1 (Yv.assign rfl eV) ?_)
  refine ya ?_
  refine AW.ret (retI (.tmp rfl (.tmp rfl .nil)) ?_)
  rw [h8t]; rfl
 try replace h8f := odf h8f
 refine rs (Y1 (Yv.eql rfl eV eV) ?_)
 refine ya ?_
 refine AW.cond rfl (fun h9t => ?_) (fun h9f => ?_)
 ·
  try replace h9t := odt h9t
  refine rs (Y1 (Yv.assign rfl eV) ?_)
  refine ya ?_
  refine AW.ret (retI (.tmp rfl (.tmp rfl .nil)) ?_)
  rw [h9t]; rfl
 try replace h9f := odf h9f
 refine rs (Y1 (Yv.eql rfl eV eV) ?_)
 refine ya ?_
 refine AW.cond rfl (fun h10t => ?_) (fun h10f => ?_)
 ·
  try replace h10t := odt h10t
  refine rs (Y1 (Yv.assign rfl eV) ?_)
  refine ya ?_
  refine AW.ret (retI (.tmp rfl (.tmp rfl .nil)) ?_)
  rw [h10t]; rfl
 try replace h10f := odf h10f
 refine rs (Y1 (Yv.eql rfl eV eV) ?_)
 refine ya ?_
 refine AW.cond rfl (fun h11t => ?_) (fun h11f => ?_)
 ·
  try replace h11t := odt h11t
  refine rs (Y1 (Yv.assign rfl eV) ?_)
  refine ya ?_
  refine AW.ret (retI (.tmp rfl (.tmp rfl .nil)) ?_)
  rw [h11t]; rfl
 try replace h11f := odf h11f
 refine rs (Y1 (Yv.eql rfl eV eV) ?_)
 refine ya ?_
 refine AW.cond rfl (fun h12t => ?_) (fun h12f => ?_)
 ·
  try replace h12t := odt h12t
  refine rs (Y1 (Yv.assign rfl eV) ?_)
  refine ya ?_
  refine AW.ret (retI (.tmp rfl (.tmp rfl .nil)) ?_)
  rw [h12t]; rfl
 try replace h12f := odf h12f
 refine rs (Y1 (Yv.eql rfl eV eV) ?_)
 refine ya ?_
 refine AW.cond rfl (fun h13t => ?_) (fun h13f => ?_)
 ·
  try replace h13t := odt h13t
  refine rs (Y1 (Yv.assign rfl eV) ?_)
  refine ya ?_
  refine AW.ret (retI (.tmp rfl (.tmp rfl .nil)) ?_)
  rw [h13t]; rfl
 try replace h13f := odf h13f
 refine rs (Y1 (Yv.eql rfl eV eV) ?_)
 refine ya ?_
 refine AW.cond rfl (fun h14t => ?_) (fun h14f => ?_)
 ·
  try replace h14t := odt h14t
  refine rs (Y1 (Yv.assign rfl eV) ?_)
  refine ya ?_
  refine AW.ret (retI (.tmp rfl (.tmp rfl .nil)) ?_)
  rw [h14t]; rfl
 try replace h14f := odf h14f
 refine rs (Y1 (Yv.eql rfl eV eV) ?_)
 refine ya ?_
 refine AW.cond rfl (fun h15t => ?_) (fun h15f => ?_)
 ·
  try replace h15t := odt h15t
  refine rs (Y1 (Yv.assign rfl eV) ?_)
  refine ya ?_
  refine AW.ret (retI (.tmp rfl (.tmp rfl .nil)) ?_)
  rw [h15t]; rfl
 try replace h15f := odf h15f
 refine rs (Y1 (Yv.eql rfl eV eV) ?_)
 refine ya ?_
 refine AW.cond rfl (fun h16t => ?_) (fun h16f => ?_)
 ·
  try replace h16t := odt h16t
  refine rs (Y1 (Yv.assign rfl eV) ?_)
  refine ya ?_
  refine AW.ret (retI (.tmp rfl (.tmp rfl .nil)) ?_)
  rw [h16t]; rfl
 try replace h16f := odf h16f
 refine rs (Y1 (Yv.eql rfl eV eV) ?_)
 refine ya ?_
 refine AW.cond rfl (fun h17t => ?_) (fun h17f => ?_)
 ·
  try replace h17t := odt h17t
  refine rs (Y1 (Yv.assign rfl eV) ?_)
  refine ya ?_
  refine AW.ret (retI (.tmp rfl (.tmp rfl .nil)) ?_)
  rw [h17t]; rfl
 try replace h17f := odf h17f
 refine rs (Y1 (Yv.eql rfl eV eV) ?_)
 refine ya ?_
 refine AW.cond rfl (fun h18t => ?_) (fun h18f => ?_)
 ·
  try replace h18t := odt h18t
  refine rs (Y1 (Yv.assign rfl eV) ?_)
  refine ya ?_
  refine AW.ret (retI (.tmp rfl (.tmp rfl .nil)) ?_)
  rw [h18t]; rfl
 try replace h18f := odf h18f
 refine rs (Y1 (Yv.eql rfl eV eV) ?_)
 refine ya ?_
 refine AW.cond rfl (fun h19t => ?_) (fun h19f => ?_)
 ·
  try replace h19t := odt h19t
  refine rs (Y1 (Yv.assign rfl eV) ?_)
  refine ya ?_
  refine AW.ret (retI (.tmp rfl (.tmp rfl .nil)) ?_)
  rw [h19t]; rfl
 try replace h19f := odf h19f
 refine rs (Y1 (Yv.eql rfl eV eV) ?_)
 refine ya ?_
 refine AW.cond rfl (fun h20t => ?_) (fun h20f => ?_)
 ·
  try replace h20t := odt h20t
  refine rs (Y1 (Yv.assign rfl eV) ?_)
  refine ya ?_
  refine AW.ret (retI (.tmp rfl (.tmp rfl .nil)) ?_)
  rw [h20t]; rfl
 try replace h20f := odf h20f
 refine rs (Y1 (Yv.eql rfl eV eV) ?_)
 refine ya ?_
 refine AW.cond rfl (fun h21t => ?_) (fun h21f => ?_)
 ·
  try replace h21t := odt h21t
  refine rs (Y1 (Yv.assign rfl eV) ?_)
  refine ya ?_
  refine AW.ret (retI (.tmp rfl (.tmp rfl .nil)) ?_)
  rw [h21t]; rfl
 try replace h21f := odf h21f
 refine rs (Y1 (Yv.eql rfl eV eV) ?_)
 refine ya ?_
 refine AW.cond rfl (fun h22t => ?_) (fun h22f => ?_)
 ·
  try replace h22t := odt h22t
  refine rs (Y1 (Yv.assign rfl eV) ?_)
  refine ya ?_
  refine AW.ret (retI (.tmp rfl (.tmp rfl .nil)) ?_)
  rw [h22t]; rfl
 try replace h22f := odf h22f
 refine rs (Y1 (Yv.eql rfl eV eV) ?_)
 refine ya ?_
 refine AW.cond rfl (fun h23t => ?_) (fun h23f => ?_)
 ·
  try replace h23t := odt h23t
  refine rs (Y1 (Yv.assign rfl eV) ?_)
  refine ya ?_
  refine AW.ret (retI (.tmp rfl (.tmp rfl .nil)) ?_)
  rw [h23t]; rfl
 try replace h23f := odf h23f
 refine rs (Y1 (Yv.eql rfl eV eV) ?_)
 refine ya ?_
 refine AW.cond rfl (fun h24t => ?_) (fun h24f => ?_)
 ·
  try replace h24t := odt h24t
  refine rs (Y1 (Yv.assign rfl eV) ?_)
  refine ya ?_
  refine AW.ret (retI (.tmp rfl (.tmp rfl .nil)) ?_)
  rw [h24t]; rfl
 try replace h24f := odf h24f
 refine rs (Y1 (Yv.eql rfl eV eV) ?_)
 refine ya ?_
 refine AW.cond rfl (fun h25t => ?_) (fun h25f => ?_)
 ·
  try replace h25t := odt h25t
  refine rs (Y1 (Yv.assign rfl eV) ?_)
  refine ya ?_
  refine AW.ret (retI (.tmp rfl (.tmp rfl .nil)) ?_)
  rw [h25t]; rfl
 try replace h25f := odf h25f
 refine rs (Y1 (Yv.eql rfl eV eV) ?_)
 refine ya ?_
 refine AW.cond rfl (fun h26t => ?_) (fun h26f => ?_)
 ·
  try replace h26t := odt h26t
  refine rs (Y1 (Yv.assign rfl eV) ?_)
  refine ya ?_
  refine AW.ret (retI (.tmp rfl (.tmp rfl .nil)) ?_)
  rw [h26t]; rfl
 try replace h26f := odf h26f
 refine AW.skip ?_
 refine rs (Y1 (Yv.assign rfl eV) ?_)
 refine ya ?_
 refine AW.ret (retI (.tmp rfl (.tmp rfl .nil)) ?_)
 rw [op_out (by omega)]; rfl

end Go.Proofs.YtecpjlhbkmongaaGreat

namespace Go.Proofs.YtecpjlhbkmongaaGreat
open Go Go.RowKit
structure Rd where
 at_ : Nat
 cut : Bool
 wrong : Bool
 deriving DecidableEq
structure Rx where
 wide : Int
 reg : Int
 rm : Int
 deriving DecidableEq
def rdCells (bs : List UInt8) (r : Rd) : List T := [u8s bs, .v (.int .i64 (r.at_ : Int)), .v (.bool r.cut), .v (.bool r.wrong)]
def rxVals (x : Rx) : List Value := [.int .i64 x.wide, .int .i64 x.reg, .int .i64 x.rm]
def rxCells (x : Rx) : List T := [.v (.int .i64 x.wide), .v (.int .i64 x.reg), .v (.int .i64 x.rm)]
def rxT (x : Rx) : T := .agg (rxCells x)
def nilI : Ins := ⟨0, 0, 0, 0, 0, 0⟩
def byteAt (bs : List UInt8) (k : Nat) : Int := ((bs.getD k 0).toNat : Int)
def nextF (bs : List UInt8) (r : Rd) : Int × Rd :=
 if (r.cut || r.wrong) = true then (0, r) else if r.at_ = bs.length then (0, ⟨r.at_, true, r.wrong⟩) else (byteAt bs r.at_, ⟨r.at_ + 1, r.cut, r.wrong⟩)
def mustF (r : Rd) (is : Bool) : Rd := if (!r.cut && !is) = true then ⟨r.at_, r.cut, true⟩ else r
abbrev orI (a b : Int) : Int := bitsOf .or .i64 a b
abbrev andI (a b : Int) : Int := bitsOf .and .i64 a b
def splitF (x : Int) : Rx := ⟨x / 8 % 2, x / 4 % 2 * 8, x % 2 * 8⟩
def immS (bs : List UInt8) (r : Rd) : Nat → Int × Rd
 | 0 => (0, r)
 | k + 1 => ((immS bs r k).1 + (nextF bs (immS bs r k).2).1 * 256 ^ k, (nextF bs (immS bs r k).2).2)
def sgn (k : Nat) (n : Int) : Int := if 2 * n < 256 ^ k then n else n - 256 ^ k
def immV (bs : List UInt8) (r : Rd) (k : Nat) : Int := sgn k (immS bs r k).1
def immD (bs : List UInt8) (r : Rd) (k : Nat) : Rd := (immS bs r k).2
def twoV (bs : List UInt8) (x : Rx) (r : Rd) : Int × Int := (orI x.reg ((nextF bs r).1 / 8 % 8), orI x.rm ((nextF bs r).1 % 8))
def twoD (bs : List UInt8) (r : Rd) : Rd := mustF (nextF bs r).2 (decide ((nextF bs r).1 / 64 = 3))
def oneV (bs : List UInt8) (x : Rx) (r : Rd) : Int × Int := twoV bs x (mustF r (decide (x.reg = 0)))
def oneD (bs : List UInt8) (x : Rx) (r : Rd) : Rd := twoD bs (mustF r (decide (x.reg = 0)))
def memD1 (bs : List UInt8) (r : Rd) : Rd := mustF (nextF bs r).2 (decide ((nextF bs r).1 / 64 = 2))
def memD2 (bs : List UInt8) (r : Rd) : Rd := if (nextF bs r).1 % 8 = 4 then mustF (nextF bs (memD1 bs r)).2 (decide ((nextF bs (memD1 bs r)).1 = 36)) else memD1 bs r
def memV (bs : List UInt8) (x : Rx) (r : Rd) : Int × Int × Int := (orI x.reg ((nextF bs r).1 / 8 % 8), orI x.rm ((nextF bs r).1 % 8), immV bs (memD2 bs r) 4)
def memD (bs : List UInt8) (r : Rd) : Rd := immD bs (memD2 bs r) 4
def peekF (bs : List UInt8) (r : Rd) : Bool := decide ((r.at_ : Int) < (bs.length : Int)) && decide (byteAt bs r.at_ / 64 = 2)
def movedR (bs : List UInt8) (x : Rx) (r : Rd) : Ins × Rd :=
 if peekF bs r = true then (⟨4, (memV bs x r).2.1, (memV bs x r).1, 0, 8, (memV bs x r).2.2⟩, memD bs r) else (⟨1, (twoV bs x r).2, (twoV bs x r).1, 0, 0, 0⟩, twoD bs r)
def kindsN : List Int := [15, 16, 17, 18, 19, 20, 22, 23, 24, 25, 26, 27, 28, 29, 30, 31]
def stepN (op n a k : Int) : Int := if (decide ((opF k).1 = op) && decide ((opF k).2 = n)) = true then k else a
def kindN (op n : Int) (j : Nat) : Int := (kindsN.take j).foldl (stepN op n) 0
def numD1 (bs : List UInt8) (x : Rx) (op : Int) (r : Rd) : Rd := mustF (oneD bs x r) (decide (0 < kindN op (oneV bs x r).1 16))
def numberedR (bs : List UInt8) (x : Rx) (op : Int) (r : Rd) : Ins × Rd :=
 if op = 129 then (⟨kindN op (oneV bs x r).1 16, (oneV bs x r).2, 0, 0, 0, immV bs (numD1 bs x op r) 4⟩, immD bs (numD1 bs x op r) 4)
 else if op = 193 then (⟨kindN op (oneV bs x r).1 16, (oneV bs x r).2, 0, 0, 0, immV bs (numD1 bs x op r) 1⟩, mustF (immD bs (numD1 bs x op r) 1) (decide (0 ≤ immV bs (numD1 bs x op r) 1) && decide (immV bs (numD1 bs x op r) 1 ≤ 63)))
 else (⟨kindN op (oneV bs x r).1 16, (oneV bs x r).2, 0, 0, 0, 0⟩, numD1 bs x op r)
def narrowR (bs : List UInt8) (x : Rx) (op : Int) (r : Rd) : Ins × Rd :=
 if op = 139 then (⟨3, (memV bs x r).1, (memV bs x r).2.1, 0, 4, (memV bs x r).2.2⟩, memD bs r)
 else if op = 137 then (⟨4, (memV bs x r).2.1, (memV bs x r).1, 0, 4, (memV bs x r).2.2⟩, memD bs r)
 else if op = 136 then (⟨4, (memV bs x r).2.1, (memV bs x r).1, 0, 1, (memV bs x r).2.2⟩, memD bs r)
 else if op = 255 then (⟨if (oneV bs x r).1 = 2 then 38 else 39, (oneV bs x r).2, 0, 0, 0, 0⟩, mustF (oneD bs x r) (decide ((oneV bs x r).1 = 2) || decide ((oneV bs x r).1 = 4)))
 else if andI op 248 = 80 then (⟨41, orI x.rm (op % 8), 0, 0, 0, 0⟩, mustF r (decide (x.reg = 0)))
 else if andI op 248 = 88 then (⟨42, orI x.rm (op % 8), 0, 0, 0, 0⟩, mustF r (decide (x.reg = 0)))
 else (nilI, mustF r false)
def farD1 (x : Rx) (r : Rd) : Rd := mustF r (decide (x.wide = 1) || decide (x.reg = 0))
def farIn (bs : List UInt8) (x : Rx) (op : Int) (r : Rd) : Ins × Rd :=
 if (decide (x.wide = 0) && decide (andI op 240 = 144)) = true then (⟨32, (oneV bs x r).2, 0, op % 16, 0, 0⟩, mustF (oneD bs x r) (decide ((oneV bs x r).1 = 0)))
 else if (decide (x.wide = 1) && decide (andI op 240 = 64)) = true then (⟨34, (twoV bs x r).1, (twoV bs x r).2, op % 16, 0, 0⟩, twoD bs r)
 else if (decide (x.wide = 1) && decide (op = 175)) = true then (⟨21, (twoV bs x r).1, (twoV bs x r).2, 0, 0, 0⟩, twoD bs r)
 else if (decide (x.wide = 1) && decide (op = 182)) = true then
  if peekF bs r = true then (⟨3, (memV bs x r).1, (memV bs x r).2.1, 0, 1, (memV bs x r).2.2⟩, memD bs r) else (⟨33, (twoV bs x r).1, (twoV bs x r).2, 0, 0, 0⟩, twoD bs r)
 else (nilI, mustF r false)
def farR (bs : List UInt8) (x : Rx) (r : Rd) : Ins × Rd :=
 if ((nextF bs (farD1 x r)).2.cut || (nextF bs (farD1 x r)).2.wrong) = true then (nilI, (nextF bs (farD1 x r)).2) else farIn bs x (nextF bs (farD1 x r)).1 (nextF bs (farD1 x r)).2
def realK (first : Int) (x : Rx) (op : Int) : Int :=
 if (decide (first = 102) && decide (x.wide = 1) && decide (op = 110)) = true then 45
 else if (decide (first = 102) && decide (x.wide = 0) && decide (op = 46)) = true then 51
 else if (decide (first = 242) && decide (x.wide = 1) && decide (op = 42)) = true then 52
 else if (decide (first = 242) && decide (x.wide = 0) && decide (op = 88)) = true then 47
 else if (decide (first = 242) && decide (x.wide = 0) && decide (op = 89)) = true then 48
 else if (decide (first = 242) && decide (x.wide = 0) && decide (op = 92)) = true then 49
 else if (decide (first = 242) && decide (x.wide = 0) && decide (op = 94)) = true then 50
 else 0
def realIn (bs : List UInt8) (first : Int) (x : Rx) (op : Int) (r : Rd) : Ins × Rd :=
 if (decide (first = 102) && decide (x.wide = 1) && decide (op = 126)) = true then (⟨46, (twoV bs x r).2, (twoV bs x r).1, 0, 0, 0⟩, twoD bs r)
 else (⟨realK first x op, (twoV bs x (mustF r (decide (0 < realK first x op)))).1, (twoV bs x (mustF r (decide (0 < realK first x op)))).2, 0, 0, 0⟩, twoD bs (mustF r (decide (0 < realK first x op))))
def realD1 (bs : List UInt8) (r : Rd) : Rd := mustF (nextF bs r).2 (decide (andI (nextF bs r).1 242 = 64))
def realD2 (bs : List UInt8) (r : Rd) : Rd := mustF (nextF bs (realD1 bs r)).2 (decide ((nextF bs (realD1 bs r)).1 = 15))
def realR (bs : List UInt8) (first : Int) (r : Rd) : Ins × Rd :=
 if (nextF bs r).2.cut = true then (nilI, (nextF bs r).2)
 else if ((nextF bs (realD2 bs r)).2.cut || (nextF bs (realD2 bs r)).2.wrong) = true then (nilI, (nextF bs (realD2 bs r)).2)
 else realIn bs first (splitF (nextF bs r).1) (nextF bs (realD2 bs r)).1 (nextF bs (realD2 bs r)).2
def kindsP : List Int := [6, 7, 8, 9, 10, 11, 12, 13, 14]
def kindP (op : Int) : Option Int := kindsP.find? (fun k => decide ((opF k).1 = op))
def prefIn (bs : List UInt8) (x : Rx) (op : Int) (r : Rd) : Ins × Rd :=
 if op = 15 then farR bs x r
 else if x.wide = 0 then narrowR bs x op r
 else if andI op 248 = 184 then (⟨2, orI x.rm (op % 8), 0, 0, 0, immV bs (mustF r (decide (x.reg = 0))) 8⟩, mustF (immD bs (mustF r (decide (x.reg = 0))) 8) (!smallF (immV bs (mustF r (decide (x.reg = 0))) 8)))
 else if op = 139 then (⟨3, (memV bs x r).1, (memV bs x r).2.1, 0, 8, (memV bs x r).2.2⟩, memD bs r)
 else if op = 141 then (⟨5, (memV bs x r).1, (memV bs x r).2.1, 0, 0, (memV bs x r).2.2⟩, memD bs r)
 else if op = 137 then movedR bs x r
 else if op = 199 then (⟨2, (oneV bs x r).2, 0, 0, 0, immV bs (mustF (oneD bs x r) (decide ((oneV bs x r).1 = 0))) 4⟩, immD bs (mustF (oneD bs x r) (decide ((oneV bs x r).1 = 0))) 4)
 else if op = 129 ∨ op = 247 ∨ op = 211 ∨ op = 193 then numberedR bs x op r
 else match kindP op with
  | some k => (⟨k, (twoV bs x r).2, (twoV bs x r).1, 0, 0, 0⟩, twoD bs r)
  | none => (nilI, mustF r false)
def prefR (bs : List UInt8) (x : Rx) (r : Rd) : Ins × Rd :=
 if ((nextF bs r).2.cut || (nextF bs r).2.wrong) = true then (nilI, (nextF bs r).2) else prefIn bs x (nextF bs r).1 (nextF bs r).2
def insTwo (bs : List UInt8) (r : Rd) : Ins × Rd :=
 if (nextF bs r).1 = 5 then (⟨43, 0, 0, 0, 0, 0⟩, (nextF bs r).2)
 else if (nextF bs r).1 = 11 then (⟨44, 0, 0, 0, 0, 0⟩, (nextF bs r).2)
 else if andI (nextF bs r).1 240 = 128 then (⟨36, 0, 0, (nextF bs r).1 % 16, 4, immV bs (nextF bs r).2 4⟩, immD bs (nextF bs r).2 4)
 else (nilI, mustF (nextF bs r).2 false)
def insIn (bs : List UInt8) (x : Int) (r : Rd) : Ins × Rd :=
 if andI x 240 = 64 then prefR bs (splitF x) (mustF r (decide (andI x 2 = 0)))
 else if (decide (x = 102) || decide (x = 242)) = true then realR bs x r
 else if andI x 240 = 112 then (⟨36, 0, 0, x % 16, 1, immV bs r 1⟩, immD bs r 1)
 else if x = 235 then (⟨35, 0, 0, 0, 1, immV bs r 1⟩, immD bs r 1)
 else if x = 233 then (⟨35, 0, 0, 0, 4, immV bs r 4⟩, immD bs r 4)
 else if x = 232 then (⟨37, 0, 0, 0, 0, immV bs r 4⟩, immD bs r 4)
 else if x = 195 then (⟨40, 0, 0, 0, 0, 0⟩, r)
 else if x = 15 then insTwo bs r
 else (nilI, mustF r false)
def insR (bs : List UInt8) (r : Rd) : Ins × Rd :=
 if (nextF bs r).2.cut = true then (nilI, (nextF bs r).2) else insIn bs (nextF bs r).1 (nextF bs r).2
def rd0 : Rd := ⟨0, false, false⟩
def decI (bs : List UInt8) : Ins := if (insR bs rd0).2.wrong = true ∨ (insR bs rd0).2.cut = true then nilI else (insR bs rd0).1
def decN (bs : List UInt8) : Nat := if (insR bs rd0).2.wrong = true ∨ (insR bs rd0).2.cut = true then 0 else (insR bs rd0).2.at_
def decE (bs : List UInt8) : Int := if (insR bs rd0).2.wrong = true then 201 else if (insR bs rd0).2.cut = true then 202 else 0

section
variable {cx : Cx} {env : Env} {ops : Array Oper} {l : List Oper} {K : Env → St → Prop} {x : Ent} {E R : St}
theorem AWL.tuck (h : AWL cx ops l K env ((x :: R) ++ E)) : AWL cx ops l K env ((x :: E) ++ R) := by
 refine AWL.perm (S' := (x :: R) ++ E) ?_ h
 exact List.Perm.cons x List.perm_append_comm
end
/-! ### ranges -/
theorem byteAt_range (bs : List UInt8) (k : Nat) : 0 ≤ byteAt bs k ∧ byteAt bs k ≤ 255 := u8_toNat _
theorem next_range (bs : List UInt8) (r : Rd) : 0 ≤ (nextF bs r).1 ∧ (nextF bs r).1 ≤ 255 := by
 unfold nextF
 split
 ·exact ⟨Int.le_refl 0, show (0 : Int) ≤ 255 by decide⟩
 split
 ·exact ⟨Int.le_refl 0, show (0 : Int) ≤ 255 by decide⟩
 exact byteAt_range bs _
def RdOk (bs : List UInt8) (r : Rd) : Prop := r.at_ ≤ bs.length
theorem next_ok {bs : List UInt8} {r : Rd} (h : RdOk bs r) : RdOk bs (nextF bs r).2 := by
 unfold nextF
 split
 ·exact h
 split
 ·exact h
 unfold RdOk at h ⊢
 show r.at_ + 1 ≤ bs.length
 omega
theorem must_ok {bs : List UInt8} {r : Rd} (h : RdOk bs r) (is : Bool) : RdOk bs (mustF r is) := by
 unfold mustF
 split <;> exact h
theorem imm_ok {bs : List UInt8} {r : Rd} (h : RdOk bs r) : ∀ k, RdOk bs (immS bs r k).2
 | 0 => h
 | k + 1 => next_ok (imm_ok h k)
theorem imm_range (bs : List UInt8) (r : Rd) : ∀ k, 0 ≤ (immS bs r k).1 ∧ (immS bs r k).1 < 256 ^ k
 | 0 => ⟨Int.le_refl _, show (0 : Int) < 1 by decide⟩
 | k + 1 => by
  obtain ⟨h1, h2⟩ := imm_range bs r k
  obtain ⟨h3, h4⟩ := next_range bs (immS bs r k).2
  have hp : (0 : Int) < 256 ^ k := Int.pow_pos (by decide)
  have h5 : 0 ≤ (nextF bs (immS bs r k).2).1 * 256 ^ k := Int.mul_nonneg h3 (by omega)
  have h6 : (nextF bs (immS bs r k).2).1 * 256 ^ k ≤ 255 * 256 ^ k := Int.mul_le_mul_of_nonneg_right h4 (by omega)
  have e : (256 : Int) ^ (k + 1) = 256 ^ k * 256 := Int.pow_succ ..
  show 0 ≤ (immS bs r k).1 + _ ∧ (immS bs r k).1 + _ < 256 ^ (k + 1)
  rw [e]
  omega

/-! ### numbers, byte by byte -/
theorem or_add (n v : Nat) (j : Nat) (hn : n < 2 ^ j) : n ||| v * 2 ^ j = n + v * 2 ^ j := by
 rw [Nat.or_comm, Nat.add_comm, Nat.mul_comm, Nat.two_pow_add_eq_or_of_lt hn]
theorem p256 (j : Nat) : (256 : Nat) ^ j = 2 ^ (8 * j) := by
 rw [Nat.pow_mul]
theorem or_shl {n v : Int} {j : Nat} (hj : j < 8) (h0 : 0 ≤ n) (h1 : n < 256 ^ j) (hv0 : 0 ≤ v) (hv1 : v ≤ 255) : bitsOf .or .u64 n (shlOf .u64 v (8 * (j : Int))) = n + v * 256 ^ j := by
 obtain ⟨n, rfl⟩ := Int.eq_ofNat_of_zero_le h0
 obtain ⟨v, rfl⟩ := Int.eq_ofNat_of_zero_le hv0
 have hp : (256 : Int) ^ j = ((256 ^ j : Nat) : Int) := by rw [Int.natCast_pow]; rfl
 rw [hp] at h1 ⊢
 have h1 : n < 256 ^ j := by omega
 have hv1 : v ≤ 255 := by omega
 have hle : (256 : Nat) ^ j ≤ 256 ^ 7 := Nat.pow_le_pow_right (by decide) (by omega)
 have hb : v * 256 ^ j ≤ 255 * 256 ^ j := Nat.mul_le_mul_right _ hv1
 have hs : shlOf .u64 (v : Int) (8 * (j : Int)) = ((v * 256 ^ j : Nat) : Int) := by
  unfold shlOf
  have e1 : (8 * (j : Int)).toNat = 8 * j := by omega
  have e2 : min (8 * j) IntKind.u64.bits = 8 * j := Nat.min_eq_left (by show 8 * j ≤ 64; omega)
  rw [e1, e2]
  have e3 : (v : Int) * 2 ^ (8 * j) = ((v * 256 ^ j : Nat) : Int) := by rw [p256, Int.natCast_mul, Int.natCast_pow]; rfl
  rw [e3]
  exact IntWalk.u64_in _ ⟨by omega, by omega⟩
 rw [hs]
 show IntKind.u64.wrap ((BitVec.ofInt 64 (n : Int) ||| BitVec.ofInt 64 ((v * 256 ^ j : Nat) : Int)).toNat : Int) = _
 have en : BitVec.ofInt 64 (n : Int) = BitVec.ofNat 64 n := by rw [BitVec.ofInt_natCast]
 have ev : BitVec.ofInt 64 ((v * 256 ^ j : Nat) : Int) = BitVec.ofNat 64 (v * 256 ^ j) := by rw [BitVec.ofInt_natCast]
 rw [en, ev, BitVec.toNat_or, BitVec.toNat_ofNat, BitVec.toNat_ofNat, Nat.mod_eq_of_lt (by omega), Nat.mod_eq_of_lt (by omega)]
 have := or_add n v (8 * j) (by rw [← p256]; exact h1)
 rw [← p256] at this
 rw [this, ← Int.natCast_mul, ← Int.natCast_add]
 exact IntWalk.u64_in _ ⟨by omega, by omega⟩
theorem sgn_eq {k : Nat} (hk : k = 1 ∨ k = 4 ∨ k = 8) {n : Int} (h0 : 0 ≤ n) (h1 : n < 256 ^ k) : shrOf .i64 (IntKind.i64.wrap (shlOf .u64 n (64 - 8 * (k : Int)))) (64 - 8 * (k : Int)) = sgn k n := by
 unfold shrOf shlOf sgn
 rcases hk with rfl | rfl | rfl
 ·show (IntKind.i64.wrap (IntKind.u64.wrap (n * 72057594037927936))).fdiv 72057594037927936 = if 2 * n < 256 then n else n - 256
  rw [Int.fdiv_eq_ediv_of_nonneg _ (by decide), IntKind.wrap_i64, IntKind.wrap_u64]
  have h1 : n < 256 := h1
  split <;> omega
 ·show (IntKind.i64.wrap (IntKind.u64.wrap (n * 4294967296))).fdiv 4294967296 = if 2 * n < 4294967296 then n else n - 4294967296
  rw [Int.fdiv_eq_ediv_of_nonneg _ (by decide), IntKind.wrap_i64, IntKind.wrap_u64]
  have h1 : n < 4294967296 := h1
  split <;> omega
 show (IntKind.i64.wrap (IntKind.u64.wrap (n * 1))).fdiv 1 = if 2 * n < 18446744073709551616 then n else n - 18446744073709551616
 rw [Int.fdiv_eq_ediv_of_nonneg _ (by decide), IntKind.wrap_i64, IntKind.wrap_u64]
 have h1 : n < 18446744073709551616 := h1
 split <;> omega
theorem kindN_next (op n : Int) {j : Nat} (h : j < 16) : kindN op n (j + 1) = stepN op n (kindN op n j) (kindsN.getD j 0) := by
 have hl : j < kindsN.length := h
 unfold kindN
 rw [List.take_succ_eq_append_getElem hl, List.foldl_append, List.getD_eq_getElem?_getD, List.getElem?_eq_getElem hl]
 rfl
theorem kindP_at {op : Int} {j : Nat} (hj : j < 9) (hp : ∀ i, i < j → ¬ (opF (kindsP.getD i 0)).1 = op) (h : (opF (kindsP.getD j 0)).1 = op) : kindP op = some (kindsP.getD j 0) := by
 have hl : j < kindsP.length := hj
 have g : ∀ i (hi : i < kindsP.length), kindsP.getD i 0 = kindsP[i] := fun i hi => by
  rw [List.getD_eq_getElem?_getD, List.getElem?_eq_getElem hi]; rfl
 rw [kindP, g j hl, List.find?_eq_some_iff_getElem]
 rw [g j hl] at h
 refine ⟨by rw [decide_eq_true_eq]; exact h, j, hl, rfl, fun i hi => ?_⟩
 have := hp i hi
 rw [g i (by omega)] at this
 rw [decide_eq_false this]; rfl
theorem kindP_none {op : Int} (hp : ∀ i, i < 9 → ¬ (opF (kindsP.getD i 0)).1 = op) : kindP op = none := by
 rw [kindP, List.find?_eq_none]
 intro k hk
 obtain ⟨i, hi, rfl⟩ := List.mem_iff_getElem.1 hk
 have := hp i hi
 rw [List.getD_eq_getElem?_getD, List.getElem?_eq_getElem hi] at this
 rw [decide_eq_true_eq]; exact this
theorem one_ok {bs : List UInt8} {r : Rd} (h : RdOk bs r) (x : Rx) : RdOk bs (oneD bs x r) := must_ok (next_ok (must_ok h _)) _
end Go.Proofs.YtecpjlhbkmongaaGreat

namespace Go.Proofs.YtecpjlhbkmongaaGreat
open Go Go.RowKit

set_option maxHeartbeats 400000 in
theorem next63 (b : Nat) (bs : List UInt8) (r : Rd) (hb : bs.length ≤ 1099511627776) (hr : RdOk bs r) :
    ACalls Tryz.prog 98 [pv b] [Ent.box b 155 (rdCells bs r)] (fun t_ S => t_ = .v (.int .i64 (nextF bs r).1) ∧ S = [Ent.box b 155 (rdCells bs (nextF bs r).2)]) := by
 unfold RdOk at hr
 refine ACalls.intro Tryz.func98 rfl Tryz.ntmps98 nB rfl fun X w0 => ?_
 refine ra ?_
 refine AW.seq ?_
 refine rs (ym ?_)
 refine Y1 (Yv.nilChk rfl eV) ?_
 refine yf fo_155_2 ?_
 refine yl ag_4 0 ?_
 refine ym ?_
 refine gF (Yv.move rfl eV) ?_
 refine gF (Yv.nilChk rfl (Eg rfl rfl id)) ?_
 refine gF (Yv.fieldBox rfl fo_155_3 (Eg rfl rfl id)) ?_
 refine gF (Yv.loadBox rfl ag_4 (i := 0) rfl (Eg rfl rfl id) rfl) ?_
 refine Y1 (Yv.pickOr (t := .const (.bool true)) rfl eV (Eg rfl rfl id)) (nl ?_)
 refine AW.cond rfl (fun h0t => ?_) (fun h0f => ?_)
 ·
  try replace h0t := odt h0t
  refine ra ?_
  refine AW.ret (retI (.tmp rfl .nil) ?_)
  rw [nextF, if_pos h0t]
  exact ⟨rfl, rfl⟩
 try replace h0f := odf h0f
 refine AW.skip ?_
 refine AW.seq ?_
 refine AW.rseqQ rfl (by kernel_rfl) ?_
 refine qm ?_
 refine Q1 (Yv.nilChk rfl eV) ?_
 refine qf fo_155_1 ?_
 refine ql ag_3 0 ?_
 refine qm ?_
 refine Q1 (Yv.nilChk rfl eV) ?_
 refine qf fo_155_0 ?_
 refine ql ag_27 0 ?_
 refine Q1 (Yv.lenSl rfl so_27 (B rfl) eV len_u8s) ?_
 refine Q1 (Yv.eql rfl eV eV) ?_
 refine AWQ.nil ?_
 refine AW.cond rfl (fun h1t => ?_) (fun h1f => ?_)
 ·
  try replace h1t := odt h1t
  refine rs (ym ?_)
  refine Y1 (Yv.nilChk rfl eV) ?_
  refine yf fo_155_2 ?_
  refine AWL.storeBox (i := 0) rfl rfl rfl ag_4 rfl (E rfl rfl) (E rfl rfl) rfl rfl nB (nl ?_)
  refine ra ?_
  refine AW.ret (retI (.tmp rfl .nil) ?_)
  rw [nextF, if_neg (ne_true_of_eq_false h0f), if_pos (by omega)]
  exact ⟨rfl, rfl⟩
 try replace h1f := odf h1f
 refine AW.skip ?_
 refine rs (ym ?_)
 refine Y1 (Yv.nilChk rfl eV) ?_
 refine yf fo_155_1 ?_
 refine yl ag_3 0 ?_
 refine Y1 (Yv.addN_i64 rfl eV eV (fun hg => by omega)) ?_
 refine Y1 (Yv.nilChk rfl eV) ?_
 refine yf fo_155_1 ?_
 refine AWL.storeBox (i := 0) rfl rfl rfl ag_3 rfl (E rfl rfl) (E rfl rfl) rfl rfl nB (nl ?_)
 refine AW.rseqQ rfl (by kernel_rfl) ?_
 refine qm ?_
 refine Q1 (Yv.nilChk rfl eV) ?_
 refine qf fo_155_0 ?_
 refine ql ag_27 0 ?_
 refine qm ?_
 refine Q1 (Yv.nilChk rfl eV) ?_
 refine qf fo_155_1 ?_
 refine ql ag_3 0 ?_
 refine Q1 (Yv.subN_i64 rfl eV eV (fun hg => by omega)) ?_
 refine Q1 (Yv.indexSl (j := r.at_) rfl ss_27 (B rfl) eV eV (fun hg => ⟨by omega, by simp only [len_u8s]; omega⟩)) ?_
 refine Q1 (Yv.loadRp rfl ag_5 eV (fun hg => u8_get (by omega))) ?_
 refine Q1 (Yv.convU8 rfl Tryz.underlying5 kd_3 rfl eV) ?_
 refine Q1 (Yv.assign rfl eV) ?_
 refine AWQ.nil ?_
 refine AW.ret (retI (.tmp rfl .nil) ?_)
 rw [nextF, if_neg (ne_true_of_eq_false h0f), if_neg (by omega)]
 exact ⟨rfl, rfl⟩

set_option maxHeartbeats 400000 in
theorem must64 (b : Nat) (bs : List UInt8) (r : Rd) (is : Bool) :
    ACalls Tryz.prog 99 [pv b, .v (.bool is)] [Ent.box b 155 (rdCells bs r)] (fun t_ S => S = [Ent.box b 155 (rdCells bs (mustF r is))]) := by
 refine ACalls.intro Tryz.func99 rfl Tryz.ntmps99 nB rfl fun X w0 => ?_
 refine rs (ym ?_)
 refine Y1 (Yv.nilChk rfl eV) ?_
 refine yf fo_155_2 ?_
 refine yl ag_4 0 ?_
 refine Y1 (Yv.not rfl eV) ?_
 refine ym ?_
 refine gT (Yv.move rfl eV) ?_
 refine gT (Yv.not rfl (Eg rfl rfl id)) ?_
 refine Y1 (Yv.pickAnd rfl eV (Eg rfl rfl id)) (nl ?_)
 refine AW.cond rfl (fun h0t => ?_) (fun h0f => ?_)
 ·
  try replace h0t := odt h0t
  refine AW.region ?_
  refine ym ?_
  refine Y1 (Yv.nilChk rfl eV) ?_
  refine yf fo_155_3 ?_
  refine AWL.storeBox (i := 0) rfl rfl rfl ag_4 rfl (E rfl rfl) (E rfl rfl) rfl rfl nB (nl ?_)
  refine retN .nil ?_
  rw [mustF, if_pos h0t] <;> rfl
 try replace h0f := odf h0f
 refine AW.skip ?_
 refine retN .nil ?_
 rw [mustF, if_neg (ne_true_of_eq_false h0f)] <;> rfl

set_option maxHeartbeats 400000 in
theorem split66 (x : Int) (h0 : 0 ≤ x) (h1 : x ≤ 255) :
    ACalls Tryz.prog 101 [.v (.int .i64 x)] [] (fun t_ S => t_ = rxT (splitF x)) := by
 refine ACalls.intro Tryz.func101 rfl Tryz.ntmps101 nB rfl fun X w0 => ?_
 refine rs ?_
 refine AWL.allocOp rfl rfl (B rfl) rfl zc_183 (fun b2 => ?_)
 refine nl ?_
 refine rs (ym ?_)
 refine Y1 (Yv.shrC 8 (by decide) (by decide) (by decide) rfl (E rfl rfl) (E rfl rfl)) ?_
 refine Y1 (Yv.andN_i64 1 2 (by decide) (by decide) (by decide) rfl (E rfl rfl) (E rfl rfl) (fun hg => ⟨by omega, by omega⟩)) ?_
 refine ym ?_
 refine Y1 (Yv.shrC 4 (by decide) (by decide) (by decide) rfl (E rfl rfl) (E rfl rfl)) ?_
 refine Y1 (Yv.andN_i64 1 2 (by decide) (by decide) (by decide) rfl (E rfl rfl) (E rfl rfl) (fun hg => ⟨by omega, by omega⟩)) ?_
 refine Y1 (Yv.shlCN_i64 8 (by decide) (by decide) rfl (E rfl rfl) (E rfl rfl) (fun hg => by omega)) ?_
 refine ym ?_
 refine Y1 (Yv.andN_i64 1 2 (by decide) (by decide) (by decide) rfl (E rfl rfl) (E rfl rfl) (fun hg => ⟨by omega, by omega⟩)) ?_
 refine Y1 (Yv.shlCN_i64 8 (by decide) (by decide) rfl (E rfl rfl) (E rfl rfl) (fun hg => by omega)) ?_
 refine Y1 (Yv.buildS rfl sh_183 (evpC eV (evpC eV (evpC eV evp0))) (fun _ => rfl)) ?_
 refine AWL.storeBox (i := 0) rfl rfl rfl ag_183 rfl (E rfl rfl) (E rfl rfl) rfl rfl nB (nl ?_)
 refine AW.ret (retI (.cellA (i := 0) rfl ag_183 rfl rfl rfl .nil) ?_)
 rfl

set_option maxHeartbeats 1000000 in
theorem imm68 (b : Nat) (bs : List UInt8) (r : Rd) (hb : bs.length ≤ 1099511627776) (hr : RdOk bs r) (k : Nat) (hk : k = 1 ∨ k = 4 ∨ k = 8) :
    ACalls Tryz.prog 103 [pv b, .v (.int .i64 (k : Int))] [Ent.box b 155 (rdCells bs r)] (fun t_ S => t_ = .v (.int .i64 (immV bs r k)) ∧ S = [Ent.box b 155 (rdCells bs (immD bs r k))]) := by
 refine ACalls.intro Tryz.func103 rfl Tryz.ntmps103 nB rfl fun X w0 => ?_
 refine ra ?_
 refine ra ?_
 refine AW.seq ?_
 refine rs (ym ?_)
 refine ym (nl ?_)
 refine AW.block ?_
 refine AW.loop (fun (j : Nat) => [(0, true, pv b), (1, true, .v (.int .i64 (k : Int))), (5, true, .v (.int .u64 (immS bs r j).1)), (8, true, .v (.int .i64 (k : Int))), (9, true, .v (.int .i64 (j : Int)))]) (fun (j : Nat) => [Ent.box b 155 (rdCells bs (immS bs r j).2)]) (fun (j : Nat) => j ≤ k) (fun (j : Nat) => k - j) 0 ?_ ?_ ?_ ?_
 ·exact Nat.zero_le _
 ·exact (su (su (su (su (su sn)))))
 ·rfl
 ·
  intro j hinv
  refine rs (Y1 (Yv.lss rfl eV eV) (nl ?_))
  refine AW.seq ?_
  refine AW.cond rfl (fun h0t => ?_) (fun h0f => ?_)
  ·
   try replace h0t := odt h0t
   refine AW.skip ?_
   refine AW.seq ?_
   refine AW.block ?_
   refine rs (ym ?_)
   refine ya ?_
   obtain ⟨hv0, hv1⟩ := next_range bs (immS bs r j).2
   obtain ⟨hn0, hn1⟩ := imm_range bs r j
   refine AW.region ?_
   refine ym ?_
   refine ym ?_
   refine C1 rfl ce_98 (E rfl rfl) (evsC (E rfl rfl) evs0) (S1 := [Ent.box b 155 (rdCells bs (immS bs r j).2)]) (S2 := _) rfl (next63 b bs (immS bs r j).2 hb (imm_ok hr j)) ?_
   rintro t14 S14 ⟨rfl, rfl⟩
   refine Y1 (Yv.convN_u64 rfl Tryz.underlying3 kd_22 eV (fun hg => by omega)) ?_
   refine ym ?_
   refine Y1 (Yv.mulN_i64 rfl eV eV (fun hg => by omega)) ?_
   refine Y1 (Yv.shl rfl eV eV (fun hg => by omega)) ?_
   refine Y1 (Yv.bits rfl rfl eV eV) ?_
   rw [or_shl (by omega) hn0 hn1 hv0 hv1]
   refine ya ?_
   refine AW.region ?_
   refine Y1 (Yv.addN_i64 rfl eV eV (fun hg => by omega)) ?_
   refine ym (nl ?_)
   exact ⟨j + 1, by omega, by omega, su (su (su (su (Sub.cons rfl (by simp) Sub.nil)))), rfl⟩
  try replace h0f := odf h0f
  refine AW.exit ?_
  obtain rfl : j = k := by omega
  obtain ⟨hn0, hn1⟩ := imm_range bs r j
  refine rs (ym ?_)
  refine Y1 (Yv.mulN_i64 rfl eV eV (fun hg => by omega)) ?_
  refine Y1 (Yv.subN_i64 rfl eV eV (fun hg => by omega)) ?_
  refine ya ?_
  refine rs (ym ?_)
  refine ym ?_
  refine Y1 (Yv.shl rfl eV eV (fun hg => by omega)) ?_
  refine Y1 (Yv.conv rfl Tryz.underlying22 kd_2 eV) ?_
  refine ym ?_
  refine Y1 (Yv.shr rfl eV eV (fun hg => by omega)) ?_
  refine ya ?_
  refine AW.ret (retI (.tmp rfl .nil) ?_)
  refine ⟨?_, rfl⟩
  show T.v (.int .i64 _) = T.v (.int .i64 _)
  rw [immV, ← sgn_eq hk hn0 hn1]

set_option maxHeartbeats 400000 in
theorem two78 (b : Nat) (bs : List UInt8) (r : Rd) (hb : bs.length ≤ 1099511627776) (hr : RdOk bs r) (x : Rx) :
    ACalls Tryz.prog 121 [pv b, rxT x] [Ent.box b 155 (rdCells bs r)] (fun t_ S => t_ = .tup [.v (.int .i64 (twoV bs x r).1), .v (.int .i64 (twoV bs x r).2)] ∧ ∃ E, S = Ent.box b 155 (rdCells bs (twoD bs r)) :: E) := by
 obtain ⟨hx0, hx1⟩ := next_range bs r
 refine ACalls.intro Tryz.func121 rfl Tryz.ntmps121 nB rfl fun X w0 => ?_
 refine rs ?_
 refine AWL.boxOp rfl rfl (B rfl) rfl (E rfl rfl) rfl (fun b3 => ?_)
 refine Y1 (Yv.assign rfl eV) ?_
 refine ya ?_
 refine rs (ym ?_)
 refine C1 rfl ce_98 (E rfl rfl) (evsC (E rfl rfl) evs0) (S1 := [Ent.box b 155 (rdCells bs r)]) (S2 := _) rfl (next63 b bs r hb hr) ?_
 rintro t8 S8 ⟨rfl, rfl⟩
 refine ya ?_
 refine rs (ym ?_)
 refine ym ?_
 refine Y1 (Yv.shrC 64 (by decide) (by decide) (by decide) rfl (E rfl rfl) (E rfl rfl)) ?_
 refine Y1 (Yv.eql rfl eV eV) ?_
 refine C1 rfl ce_99 (E rfl rfl) (evsC (E rfl rfl) (evsC (E rfl rfl) evs0)) (S1 := [Ent.box b 155 (rdCells bs (nextF bs r).2)]) (S2 := _) rfl (must64 b bs (nextF bs r).2 (decide ((nextF bs r).1 / 64 = 3))) ?_
 rintro t13 S13 rfl
 refine nl ?_
 refine AW.rseqQ rfl (by kernel_rfl) ?_
 refine qf fo_183_1 ?_
 refine ql ag_3 1 ?_
 refine qm ?_
 refine Q1 (Yv.shrC 8 (by decide) (by decide) (by decide) rfl (E rfl rfl) (E rfl rfl)) ?_
 refine Q1 (Yv.andN_i64 3 8 (by decide) (by decide) (by decide) rfl (E rfl rfl) (E rfl rfl) (fun hg => ⟨by omega, by omega⟩)) ?_
 refine Q1 (Yv.bits rfl rfl eV eV) ?_
 refine qf fo_183_2 ?_
 refine ql ag_3 1 ?_
 refine qm ?_
 refine Q1 (Yv.andN_i64 3 8 (by decide) (by decide) (by decide) rfl (E rfl rfl) (E rfl rfl) (fun hg => ⟨by omega, by omega⟩)) ?_
 refine Q1 (Yv.bits rfl rfl eV eV) ?_
 refine Q1 (Yv.assign rfl eV) ?_
 refine Q1 (Yv.assign rfl eV) ?_
 refine AWQ.nil ?_
 refine AW.ret (retI (.tmp rfl (.tmp rfl .nil)) ?_)
 exact ⟨rfl, _, rfl⟩

set_option maxHeartbeats 400000 in
theorem one76 (b : Nat) (bs : List UInt8) (r : Rd) (hb : bs.length ≤ 1099511627776) (hr : RdOk bs r) (x : Rx) :
    ACalls Tryz.prog 118 [pv b, rxT x] [Ent.box b 155 (rdCells bs r)] (fun t_ S => t_ = .tup [.v (.int .i64 (oneV bs x r).1), .v (.int .i64 (oneV bs x r).2)] ∧ ∃ E, S = Ent.box b 155 (rdCells bs (oneD bs x r)) :: E) := by
 refine ACalls.intro Tryz.func118 rfl Tryz.ntmps118 nB rfl fun X w0 => ?_
 refine rs ?_
 refine AWL.boxOp rfl rfl (B rfl) rfl (E rfl rfl) rfl (fun b3 => ?_)
 refine Y1 (Yv.assign rfl eV) ?_
 refine ya ?_
 refine rs (ym ?_)
 refine yf fo_183_1 ?_
 refine yl ag_3 1 ?_
 refine Y1 (Yv.eql rfl eV eV) ?_
 refine C1 rfl ce_99 (E rfl rfl) (evsC (E rfl rfl) (evsC (E rfl rfl) evs0)) (S1 := [Ent.box b 155 (rdCells bs r)]) (S2 := _) rfl (must64 b bs r (decide (x.reg = 0))) ?_
 rintro t10 S10 rfl
 refine nl ?_
 refine rs (ym ?_)
 refine Y1 (Yv.loadBoxA rfl ag_183 (i := 1) rfl eV rfl rfl) ?_
 refine C1 rfl ce_121 (E rfl rfl) (evsC (E rfl rfl) (evsC (E rfl rfl) evs0)) (S1 := [Ent.box b 155 (rdCells bs (mustF r (decide (x.reg = 0))))]) (S2 := _) rfl (two78 b bs (mustF r (decide (x.reg = 0))) hb (must_ok hr _) x) ?_
 rintro t14 S14 ⟨rfl, E14, rfl⟩
 refine AWL.tuck ?_
 refine ym ?_
 refine Y1 (Yv.extract rfl eV rfl) ?_
 refine Y1 (Yv.extract rfl eV rfl) ?_
 refine Y1 (Yv.assign rfl eV) ?_
 refine ya ?_
 refine rs (ym ?_)
 refine ym ?_
 refine Y1 (Yv.assign rfl eV) ?_
 refine ya ?_
 refine AW.ret (retI (.tmp rfl (.tmp rfl .nil)) ?_)
 exact ⟨rfl, _, rfl⟩

set_option maxHeartbeats 1000000 in
theorem mem74 (b : Nat) (bs : List UInt8) (r : Rd) (hb : bs.length ≤ 1099511627776) (hr : RdOk bs r) (x : Rx) :
    ACalls Tryz.prog 116 [pv b, rxT x] [Ent.box b 155 (rdCells bs r)] (fun t_ S => t_ = .tup [.v (.int .i64 (memV bs x r).1), .v (.int .i64 (memV bs x r).2.1), .v (.int .i64 (memV bs x r).2.2)] ∧ ∃ E, S = Ent.box b 155 (rdCells bs (memD bs r)) :: E) := by
 obtain ⟨hx0, hx1⟩ := next_range bs r
 have hok1 : RdOk bs (memD1 bs r) := must_ok (next_ok hr) _
 have hok2 : RdOk bs (memD2 bs r) := by
  unfold memD2
  split
  ·exact must_ok (next_ok hok1) _
  ·exact hok1
 refine ACalls.intro Tryz.func116 rfl Tryz.ntmps116 nB rfl fun X w0 => ?_
 refine rs ?_
 refine AWL.boxOp rfl rfl (B rfl) rfl (E rfl rfl) rfl (fun b3 => ?_)
 refine Y1 (Yv.assign rfl eV) ?_
 refine Y1 (Yv.assign rfl eV) ?_
 refine ya ?_
 refine rs (ym ?_)
 refine C1 rfl ce_98 (E rfl rfl) (evsC (E rfl rfl) evs0) (S1 := [Ent.box b 155 (rdCells bs r)]) (S2 := _) rfl (next63 b bs r hb hr) ?_
 rintro t9 S9 ⟨rfl, rfl⟩
 refine ya ?_
 refine rs (ym ?_)
 refine ym ?_
 refine Y1 (Yv.shrC 64 (by decide) (by decide) (by decide) rfl (E rfl rfl) (E rfl rfl)) ?_
 refine Y1 (Yv.eql rfl eV eV) ?_
 refine C1 rfl ce_99 (E rfl rfl) (evsC (E rfl rfl) (evsC (E rfl rfl) evs0)) (S1 := [Ent.box b 155 (rdCells bs (nextF bs r).2)]) (S2 := _) rfl (must64 b bs (nextF bs r).2 (decide ((nextF bs r).1 / 64 = 2))) ?_
 rintro t14 S14 rfl
 refine nl ?_
 refine AW.mid (α := Unit) (fun _ => [(0, true, pv b), (3, true, pv b3), (7, true, .v (.int .i64 (nextF bs r).1))]) (fun _ => [Ent.box b 155 (rdCells bs (memD2 bs r)), .box b3 183 (rxCells x)]) (fun _ => True) ?_ ?_
 ·
  refine rs (ym ?_)
  refine Y1 (Yv.andN_i64 3 8 (by decide) (by decide) (by decide) rfl (E rfl rfl) (E rfl rfl) (fun hg => ⟨by omega, by omega⟩)) ?_
  refine Y1 (Yv.eql rfl eV eV) (nl ?_)
  refine AW.cond rfl (fun h0t => ?_) (fun h0f => ?_)
  ·
   try replace h0t := odt h0t
   replace h0t : (nextF bs r).1 % 8 = 4 := h0t
   refine AW.region ?_
   refine ym ?_
   refine ym ?_
   refine C1 rfl ce_98 (E rfl rfl) (evsC (E rfl rfl) evs0) (S1 := [Ent.box b 155 (rdCells bs (memD1 bs r))]) (S2 := _) rfl (next63 b bs (memD1 bs r) hb hok1) ?_
   rintro t20 S20 ⟨rfl, rfl⟩
   refine Y1 (Yv.eql rfl eV eV) ?_
   refine C1 rfl ce_99 (E rfl rfl) (evsC (E rfl rfl) (evsC (E rfl rfl) evs0)) (S1 := [Ent.box b 155 (rdCells bs (nextF bs (memD1 bs r)).2)]) (S2 := _) rfl (must64 b bs (nextF bs (memD1 bs r)).2 (decide ((nextF bs (memD1 bs r)).1 = 36))) ?_
   rintro t22 S22 rfl
   refine nl ?_
   refine ⟨(), trivial, (su (su (su sn))), ?_⟩
   rw [memD2, if_pos h0t]
   rfl
  try replace h0f := odf h0f
  replace h0f : ¬ (nextF bs r).1 % 8 = 4 := h0f
  refine AW.skip ?_
  refine ⟨(), trivial, (su (su (su sn))), ?_⟩
  rw [memD2, if_neg h0f]
  rfl
 ·
  rintro _ hmid
  refine AW.rseqH (HeldBox b3 (rxVals x)) rfl (tells_box (k := 1) rfl) ?_
  refine AWH.tk (i := 0) rfl rfl rfl (B rfl) (heldAll (freeField rfl fo_183_1 (E rfl rfl))) ?_
  refine AWH.tk (i := 1) rfl rfl rfl (B rfl) (heldLoad rfl ag_3 (E rfl rfl) rfl) ?_
  refine AWH.tk (i := 2) rfl rfl rfl (B rfl) (heldAll (freeMove rfl (E rfl rfl))) ?_
  refine AWH.tk (i := 3) rfl rfl rfl (B rfl) (heldAll (freeShrC 8 (by decide) (by decide) (by decide) rfl (E rfl rfl) (E rfl rfl))) ?_
  refine AWH.tk (i := 4) rfl rfl rfl (B rfl) (heldAll (freeAndN_i64 3 8 (by decide) (by decide) (by decide) rfl (E rfl rfl) (E rfl rfl) ⟨by omega, by omega⟩)) ?_
  refine AWH.tk (i := 5) rfl rfl rfl (B rfl) (heldAll (freeBits rfl rfl (E rfl rfl) (E rfl rfl))) ?_
  refine AWH.tk (i := 6) rfl rfl rfl (B rfl) (heldAll (freeField rfl fo_183_2 (E rfl rfl))) ?_
  refine AWH.tk (i := 7) rfl rfl rfl (B rfl) (heldLoad rfl ag_3 (E rfl rfl) rfl) ?_
  refine AWH.tk (i := 8) rfl rfl rfl (B rfl) (heldAll (freeMove rfl (E rfl rfl))) ?_
  refine AWH.tk (i := 9) rfl rfl rfl (B rfl) (heldAll (freeAndN_i64 3 8 (by decide) (by decide) (by decide) rfl (E rfl rfl) (E rfl rfl) ⟨by omega, by omega⟩)) ?_
  refine AWH.tk (i := 10) rfl rfl rfl (B rfl) (heldAll (freeBits rfl rfl (E rfl rfl) (E rfl rfl))) ?_
  refine AWH.one (i := 11) (by kernel_rfl) rfl ?_
  refine ym ?_
  refine tb 1 rfl ?_
  refine AWH.one (i := 12) (by kernel_rfl) rfl ?_
  refine C1 rfl ce_103 (E rfl rfl) (evsC (E rfl rfl) (evsC (E rfl rfl) evs0)) (S1 := [Ent.box b 155 (rdCells bs (memD2 bs r))]) (S2 := _) rfl (imm68 b bs (memD2 bs r) hb hok2 4 (.inr (.inl rfl))) ?_
  rintro t35 S35 ⟨rfl, rfl⟩
  refine tb 1 rfl ?_
  refine AWH.one (i := 13) (by kernel_rfl) rfl ?_
  refine Y1 (Yv.assign rfl eV) ?_
  refine tb 1 rfl ?_
  refine AWH.one (i := 14) (by kernel_rfl) rfl ?_
  refine Y1 (Yv.assign rfl eV) ?_
  refine tb 1 rfl ?_
  refine AWH.one (i := 15) (by kernel_rfl) rfl ?_
  refine Y1 (Yv.assign rfl eV) ?_
  refine tb 1 rfl ?_
  refine AWH.done (by kernel_rfl) ?_
  refine AW.ret (retI (.tmp rfl (.tmp rfl (.tmp rfl .nil))) ?_)
  exact ⟨rfl, _, rfl⟩

end Go.Proofs.YtecpjlhbkmongaaGreat
