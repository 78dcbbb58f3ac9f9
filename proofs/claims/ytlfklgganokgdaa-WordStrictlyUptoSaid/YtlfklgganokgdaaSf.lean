/-
  TEXTS JOINED: Wk31, We, Wf, Wk32, Aw34, Wk33, Wk34, Wg, VNw, VEq, VWk32, Wk35, Wh, Wk36, Aw14, Ow, Oq.
-/
import Derived.Laws.FloatArith
import Derived.Laws.Cover2
import Derived.Test.YtlfklgganokgdaaRows
import Derived.ProofKit
import Derived.OpenShut
import Derived.JoinedCond
import Derived.Carry
import Derived.Deep.Slices
import Derived.Test.YtlfklgganokgdaaSe
set_option linter.unusedSimpArgs false
set_option linter.unusedVariables false
set_option linter.unusedSectionVars false
set_option linter.unnecessarySimpa false
namespace Go.Proofs.Ytlfklgganokgdaa
open Go Go.RowKit

theorem toSys0 {W E : St} {X : Ent} : (([X] ++ W) ++ E).Perm ((X :: E) ++ W) := by
 show (X :: (W ++ E)).Perm (X :: (E ++ W))
 exact (List.perm_append_comm).cons X
theorem toBack {A B C : St} : ((A ++ C) ++ B).Perm (A ++ (B ++ C)) := by
 rw [List.append_assoc]
 exact (List.perm_append_comm).append_left A
def CQ (cc : Pc) (x : Fr) (i : Ins) (l : List Pg) (ws : V.WS) (v : Wd64) (ok : Bool) (cc' : Pc) (l' : List Pg) (ws' : V.WS) : Prop :=
 (i.imm = 60 ∧ v = wI 0 ∧ ok = true ∧ cc' = { cc with st := 1, code := codeOf (sysA x i 0) } ∧ l' = l ∧ ws' = ws) ∨
 (¬ i.imm = 60 ∧ cc' = cc ∧ ((sysR (Mc.mk cc x [] (getM l) (V.absW ws)) i = none ∧ v = 0#64 ∧ ok = false ∧ l' = l ∧ ws' = ws) ∨ (∃ r, sysR (Mc.mk cc x [] (getM l) (V.absW ws)) i = some r ∧ v = wI r.n ∧ ok = true ∧ PgOk l' ∧ getM l' = r.mem ∧ V.absW ws' = r.w)))
theorem call55 (s g n c pg wb wm : Nat) (cc : Pc) (lab : T) (pre : List T) (x : Fr) (a : FA) (i : Ins) (l : List Pg) (ws : V.WS) (nb : Nat) (hx : FrOk x) (hl : PgOk l) (hd : cc.prog.data.length ≤ 1048576) (hz0 : 0 ≤ cc.prog.zero) (hz1 : cc.prog.zero ≤ 268435456) (hw : V.RP nb (V.absW ws)) (hnb : nb ≤ 549755813888) (har : ∀ r ∈ i.args, 0 ≤ r ∧ r < (x.nr : Int)) (hg : i.args.length ≤ 3) : ACalls Try.prog 55 [.v (.pointer (some ⟨s, 0, none⟩)), .ep (.slice (some ⟨g, 0, none⟩) n c) pre.length, .agg (insCells i)] ([Ent.box s 80 (psC (psOf cc lab (V.wp wb) (mapT pg)) (.v (.slice (some ⟨g, 0, none⟩) n c))), Ent.row (some ⟨g, 0, none⟩) n c 87 7 (pre ++ frC x a)] ++ frR x a ++ (memE 114 pg l ++ V.WSt wb wm ws)) (fun t S => ∃ v ok cc' l' ws', CQ cc x i l ws v ok cc' l' ws' ∧ t = .tup [zw v, bv ok] ∧ S = ([Ent.box s 80 (psC (psOf cc' lab (V.wp wb) (mapT pg)) (.v (.slice (some ⟨g, 0, none⟩) n c))), Ent.row (some ⟨g, 0, none⟩) n c 87 7 (pre ++ frC x a)] ++ frR x a ++ (memE 114 pg l' ++ V.WSt wb wm ws'))) :=
 (call55_ s g n c pg wb wm cc lab pre x a i l ws nb hx hl hd hz0 hz1 hw hnb har hg).lessR fun t S' h => by
  split at h
  ·rename_i h60
   obtain ⟨h1, h2⟩ := h
   exact ⟨_, _, h2, toSys0, _, _, _, _, _, .inl ⟨h60, rfl, rfl, rfl, rfl, rfl⟩, h1, rfl⟩
  ·rename_i h60
   cases hc : sysR (Mc.mk cc x [] (getM l) (V.absW ws)) i with
   | none =>
    rw [hc] at h
    obtain ⟨h1, h2⟩ := h
    exact ⟨_, _, h2, toSys0, _, _, _, _, _, .inr ⟨h60, rfl, .inl ⟨hc, rfl, rfl, rfl, rfl⟩⟩, h1, rfl⟩
   | some r =>
    rw [hc] at h
    obtain ⟨h1, l', ws', h2, h3, h4, h5⟩ := h
    exact ⟨_, _, h2, toSys0, _, _, _, _, _, .inr ⟨h60, rfl, .inr ⟨r, hc, rfl, rfl, h3, h4, h5⟩⟩, h1, rfl⟩
theorem cq_60 {cc : Pc} {x : Fr} {i : Ins} {l l' : List Pg} {ws ws' : V.WS} {v : Wd64} {ok : Bool} {cc' : Pc} (h : CQ cc x i l ws v ok cc' l' ws') (h0 : cc.st = 0) (h1 : cc'.st = 1) : i.imm = 60 ∧ ok = true := by
 rcases h with ⟨h2, _, h3, _⟩ | ⟨_, h3, _⟩
 ·exact ⟨h2, h3⟩
 rw [h3, h0] at h1; cases h1
theorem cq_n60 {cc : Pc} {x : Fr} {i : Ins} {l l' : List Pg} {ws ws' : V.WS} {v : Wd64} {ok : Bool} {cc' : Pc} (h : CQ cc x i l ws v ok cc' l' ws') (h1 : ¬ cc'.st = 1) : ¬ i.imm = 60 := by
 rcases h with ⟨_, _, _, h3, _⟩ | ⟨h2, _⟩
 ·exact absurd (by rw [h3]) h1
 exact h2
set_option maxHeartbeats 16000000 in
theorem do32S_ (s g n c pg wb wm : Nat) (cc : Pc) (lab : T) (pre : List T) (x : Fr) (a : FA) (i : Ins) (l : List Pg) (ws : V.WS) (nb : Nat) (hx : FrOk x) (hl : PgOk l) (hd : cc.prog.data.length ≤ 1048576) (hz0 : 0 ≤ cc.prog.zero) (hz1 : cc.prog.zero ≤ 268435456) (hw : V.RP nb (V.absW ws)) (hnb : nb ≤ 549755813888) (hst : cc.st = 0) (hk : i.kind = 30) (hdr : (hasF i.kind).d = true → 0 ≤ i.d ∧ i.d < (x.nr : Int)) (hr : ∀ r ∈ readsF i, 0 ≤ r ∧ r < (x.nr : Int)) (hat : 0 ≤ x.at_ ∧ x.at_ ≤ 4611686018427387904) (har : ∀ r ∈ i.args, 0 ≤ r ∧ r < (x.nr : Int)) (hg3 : i.args.length ≤ 3) (hg : i.args.length ≤ 1048576) :
    ACalls Try.prog 32 [.v (.pointer (some ⟨s, 0, none⟩)), .ep (.slice (some ⟨g, 0, none⟩) n c) pre.length, .agg (insCells i)] (([Ent.box s 80 (psC (psOf cc lab (V.wp wb) (mapT pg)) (.v (.slice (some ⟨g, 0, none⟩) n c))), Ent.row (some ⟨g, 0, none⟩) n c 87 7 (pre ++ frC x a)] ++ frR x a) ++ (memE 114 pg l ++ V.WSt wb wm ws)) (fun t S => (okS x.set (readsF i) = false ∧ t = bv false ∧ (([Ent.box s 80 (psC (psOf cc lab (V.wp wb) (mapT pg)) (.v (.slice (some ⟨g, 0, none⟩) n c))), Ent.row (some ⟨g, 0, none⟩) n c 87 7 (pre ++ frC x a)] ++ frR x a) ++ (memE 114 pg l ++ V.WSt wb wm ws)).Sublist S) ∨ (okS x.set (readsF i) = true ∧ ∃ v ok cc' l' ws', CQ cc x i l ws v ok cc' l' ws' ∧ t = bv ok ∧ (([Ent.box s 80 (psC (psOf cc' lab (V.wp wb) (mapT pg)) (.v (.slice (some ⟨g, 0, none⟩) n c))), Ent.row (some ⟨g, 0, none⟩) n c 87 7 (pre ++ frC (if i.imm = 60 then x else if ok = true then goF (setD x i.d v) else x) a)] ++ frR (if i.imm = 60 then x else if ok = true then goF (setD x i.d v) else x) a) ++ (memE 114 pg l' ++ V.WSt wb wm ws')).Sublist S)) := by
 have hl1 := hx.r
 have hl3 := hx.t
 obtain ⟨hat0, hat1⟩ := hat
 refine ACalls.intro Try.func32 rfl Try.ntmps32 nB rfl fun X w0 => ?_
 refine rs ?_
 refine AWL.boxOp rfl rfl (B rfl) rfl (E rfl rfl) rfl (fun b4 => ?_)
 refine AWL.perm (List.perm_append_singleton _ _).symm ?_
 refine AWL.boxOp rfl rfl (B rfl) rfl (E rfl rfl) rfl (fun b5 => ?_)
 refine AWL.perm (List.perm_append_singleton _ _).symm ?_
 refine ya ?_
 refine rs ?_
 refine AWL.allocOp rfl rfl (B rfl) rfl zc_4 (fun b7 => ?_)
 refine AWL.perm (List.perm_append_singleton _ _).symm ?_
 refine AWL.storeBox (i := 0) rfl rfl rfl ag_4 rfl (E rfl rfl) (E rfl rfl) rfl rfl nB (nl ?_)
 refine rs (Y1 (Yv.loadBoxA rfl ag_58 (i := 1) rfl eV rfl rfl) ?_)
 refine Y1 (Yv.makeFunc rfl evs0 rfl (evsC eV (evsC eV evs0)) rfl) ?_
 refine AWL.perm (S' := [Ent.box b7 4 [bv (true)], Ent.box b4 83 [.ep (.slice (some ⟨g, 0, none⟩) n c) pre.length], Ent.row (some ⟨g, 0, none⟩) n c 87 7 (pre ++ frC x a), Ent.row a.t x.nr x.nr 4 1 (x.set.map bv)] ++ ([Ent.box s 80 (psC (psOf cc lab (V.wp wb) (mapT pg)) (.v (.slice (some ⟨g, 0, none⟩) n c))), Ent.row a.r x.nr x.nr 39 1 (x.r.map zw), Ent.row a.s x.ns x.ns 39 1 (x.slot.map zw), Ent.row a.h x.ns x.ns 4 1 (x.there.map bv), Ent.box b5 58 (insCells i)] ++ (memE 114 pg l ++ V.WSt wb wm ws))) pmAv ?_
 refine C1 rfl ce_49 (E rfl rfl) (evsC (E rfl rfl) (evsC (E rfl rfl) evs0)) (S1 := [Ent.box b7 4 [bv (true)], Ent.box b4 83 [.ep (.slice (some ⟨g, 0, none⟩) n c) pre.length], Ent.row (some ⟨g, 0, none⟩) n c 87 7 (pre ++ frC x a), Ent.row a.t x.nr x.nr 4 1 (x.set.map bv)]) (S2 := _) rfl (reads49 b7 b4 g n c pre x a true i hx.t hg hr) ?_
 rintro t14 S14 ⟨rfl, rfl⟩
 refine AWL.perm (S' := ([Ent.box s 80 (psC (psOf cc lab (V.wp wb) (mapT pg)) (.v (.slice (some ⟨g, 0, none⟩) n c))), Ent.row (some ⟨g, 0, none⟩) n c 87 7 (pre ++ frC x a)] ++ frR x a) ++ ([Ent.box b4 83 [.ep (.slice (some ⟨g, 0, none⟩) n c) pre.length], Ent.box b5 58 (insCells i), Ent.box b7 4 [bv (okS x.set (readsF i))]] ++ (memE 114 pg l ++ V.WSt wb wm ws))) pmB0 (nl ?_)
 refine AW.seq ?_
 refine rs (yl ag_4 8 ?_)
 refine Y1 (Yv.not rfl eV) (nl ?_)
 refine AW.cond rfl (fun h0t => ?_) (fun h0f => ?_)
 ·try replace h0t := odt h0t
  refine ra ?_
  refine AW.ret (retI (.tmp rfl .nil) ?_)
  exact .inl ⟨by simpa using h0t, rfl, sub_mid _ _ _⟩
 try replace h0f := odf h0f
 have hok : okS x.set (readsF i) = true := by simpa using h0f
 refine AW.skip ?_
 refine rs (Y1 (Yv.assign rfl eV) ?_)
 refine ya ?_
 refine AW.seq ?_
 refine rs (yf fo_58_0 ?_)
 refine yl ag_3 7 (nl ?_)
 refine AW.block ?_
 refine rs (Y1 (Yv.eql rfl eV eV) ?_)
 refine ya ?_
 refine AW.cond rfl (fun h1t => ?_) (fun h1f => ?_)
 ·try replace h1t := odt h1t
  exfalso; omega
 try replace h1f := odf h1f
 refine rs (Y1 (Yv.eql rfl eV eV) ?_)
 refine ya ?_
 refine AW.cond rfl (fun h2t => ?_) (fun h2f => ?_)
 ·try replace h2t := odt h2t
  exfalso; omega
 try replace h2f := odf h2f
 refine AW.seq ?_
 refine rs (Y1 (Yv.eql rfl eV eV) ?_)
 refine ya ?_
 refine AW.cond rfl (fun h3t => ?_) (fun h3f => ?_)
 ·try replace h3t := odt h3t
  exfalso; omega
 try replace h3f := odf h3f
 refine rs (Y1 (Yv.eql rfl eV eV) ?_)
 refine ya ?_
 refine AW.cond rfl (fun h4t => ?_) (fun h4f => ?_)
 ·try replace h4t := odt h4t
  exfalso; omega
 try replace h4f := odf h4f
 refine rs (Y1 (Yv.eql rfl eV eV) ?_)
 refine ya ?_
 refine AW.cond rfl (fun h5t => ?_) (fun h5f => ?_)
 ·try replace h5t := odt h5t
  exfalso; omega
 try replace h5f := odf h5f
 refine rs (Y1 (Yv.eql rfl eV eV) ?_)
 refine ya ?_
 refine AW.cond rfl (fun h6t => ?_) (fun h6f => ?_)
 ·try replace h6t := odt h6t
  exfalso; omega
 try replace h6f := odf h6f
 refine AW.region ?_
 refine Y1 (Yv.eql rfl eV eV) ?_
 refine ya ?_
 refine AW.cond rfl (fun h7t => ?_) (fun h7f => ?_)
 ·try replace h7t := odt h7t
  exfalso; omega
 try replace h7f := odf h7f
 refine rs (Y1 (Yv.eql rfl eV eV) ?_)
 refine ya ?_
 refine AW.cond rfl (fun h8t => ?_) (fun h8f => ?_)
 ·try replace h8t := odt h8t
  exfalso; omega
 try replace h8f := odf h8f
 refine rs (Y1 (Yv.eql rfl eV eV) ?_)
 refine ya ?_
 refine AW.cond rfl (fun h9t => ?_) (fun h9f => ?_)
 ·try replace h9t := odt h9t
  exfalso; omega
 try replace h9f := odf h9f
 refine rs (Y1 (Yv.eql rfl eV eV) ?_)
 refine ya ?_
 refine AW.cond rfl (fun h10t => ?_) (fun h10f => ?_)
 ·try replace h10t := odt h10t
  exfalso; omega
 try replace h10f := odf h10f
 refine rs (Y1 (Yv.eql rfl eV eV) ?_)
 refine ya ?_
 refine AW.cond rfl (fun h11t => ?_) (fun h11f => ?_)
 ·try replace h11t := odt h11t
  obtain ⟨hd0, hd1⟩ := hdr (by rw [hk]; rfl)
  refine rs (ym ?_)
  refine yl ag_83 6 ?_
  refine Y1 (Yv.loadBoxA rfl ag_58 (i := 7) rfl eV rfl rfl) ?_
  refine AWL.perm (S' := ([Ent.box s 80 (psC (psOf cc lab (V.wp wb) (mapT pg)) (.v (.slice (some ⟨g, 0, none⟩) n c))), Ent.row (some ⟨g, 0, none⟩) n c 87 7 (pre ++ frC x a)] ++ frR x a ++ (memE 114 pg l ++ V.WSt wb wm ws)) ++ [Ent.box b4 83 [.ep (.slice (some ⟨g, 0, none⟩) n c) pre.length], Ent.box b5 58 (insCells i), Ent.box b7 4 [bv (okS x.set (readsF i))]]) toBack ?_
  refine C1 rfl ce_55 (E rfl rfl) (evsC (E rfl rfl) (evsC (E rfl rfl) (evsC (E rfl rfl) evs0))) (S1 := ([Ent.box s 80 (psC (psOf cc lab (V.wp wb) (mapT pg)) (.v (.slice (some ⟨g, 0, none⟩) n c))), Ent.row (some ⟨g, 0, none⟩) n c 87 7 (pre ++ frC x a)] ++ frR x a ++ (memE 114 pg l ++ V.WSt wb wm ws))) (S2 := _) rfl (call55 s g n c pg wb wm cc lab pre x a i l ws nb hx hl hd hz0 hz1 hw hnb har hg3) ?_
  rintro t175 S175 ⟨v, ok, cc2, l2, ws2, hcq, rfl, rfl⟩
  refine AWL.perm (S' := ([Ent.box s 80 (psC (psOf cc2 lab (V.wp wb) (mapT pg)) (.v (.slice (some ⟨g, 0, none⟩) n c))), Ent.row (some ⟨g, 0, none⟩) n c 87 7 (pre ++ frC x a)] ++ frR x a) ++ ([Ent.box b4 83 [.ep (.slice (some ⟨g, 0, none⟩) n c) pre.length], Ent.box b5 58 (insCells i), Ent.box b7 4 [bv (okS x.set (readsF i))]] ++ (memE 114 pg l2 ++ V.WSt wb wm ws2))) toBack.symm ?_
  refine ym ?_
  refine Y1 (Yv.extract rfl eV rfl) ?_
  refine Y1 (Yv.extract rfl eV rfl) ?_
  refine Y1 (Yv.assign rfl eV) ?_
  refine ya ?_
  refine rs (ym ?_)
  refine Y1 (Yv.nilChk rfl eV) ?_
  refine yf fo_80_8 ?_
  refine yl ag_3 0 ?_
  refine Y1 (Yv.eql rfl eV eV) (nl ?_)
  refine AW.cond rfl (fun h12t => ?_) (fun h12f => ?_)
  ·try replace h12t := odt h12t
   obtain ⟨h60, hokt⟩ := cq_60 hcq hst h12t
   refine ra ?_
   refine AW.ret (retI (.tmp rfl .nil) ?_)
   refine .inr ⟨hok, v, ok, cc2, l2, ws2, hcq, by rw [hokt]; rfl, ?_⟩
   rw [if_pos h60]
   exact sub_mid _ _ _
  try replace h12f := odf h12f
  have h60 := cq_n60 hcq h12f
  refine AW.skip ?_
  refine AW.seq ?_
  refine rs (ym ?_)
  refine Y1 (Yv.not rfl eV) (nl ?_)
  refine AW.cond rfl (fun h13t => ?_) (fun h13f => ?_)
  ·try replace h13t := odt h13t
   have hkf : ok = false := by simpa using h13t
   refine ra ?_
   refine AW.ret (retI (.tmp rfl .nil) ?_)
   refine .inr ⟨hok, v, ok, cc2, l2, ws2, hcq, by rw [hkf]; rfl, ?_⟩
   rw [if_neg h60, hkf]
   exact sub_mid _ _ _
  try replace h13f := odf h13f
  have hkt : ok = true := by simpa using h13f
  refine AW.skip ?_
  refine AW.seq ?_
  refine rs (yf fo_58_0 ?_)
  refine yl ag_3 7 ?_
  refine AWL.callT rfl rfl (B rfl) rfl ce_57 (E rfl rfl) (evsC (E rfl rfl) evs0) (fields57 i.kind) ?_
  rintro t188 S188 rfl
  refine ym ?_
  refine Y1 (Yv.extract rfl eV rfl) ?_
  refine Y1 (Yv.extract rfl eV rfl) ?_
  refine AWL.allocOp rfl rfl (B rfl) rfl zc_122 (fun b10 => ?_)
  refine AWL.perm (S' := ([Ent.box s 80 (psC (psOf cc2 lab (V.wp wb) (mapT pg)) (.v (.slice (some ⟨g, 0, none⟩) n c))), Ent.row (some ⟨g, 0, none⟩) n c 87 7 (pre ++ frC x a)] ++ frR x a) ++ ([Ent.box b4 83 [.ep (.slice (some ⟨g, 0, none⟩) n c) pre.length], Ent.box b5 58 (insCells i), Ent.box b7 4 [bv (okS x.set (readsF i))]] ++ (Ent.box b10 122 (List.map T.v [Value.bool false, Value.bool false, Value.bool false, Value.bool false, Value.bool false, Value.bool false, Value.bool false, Value.bool false]) :: (memE 114 pg l2 ++ V.WSt wb wm ws2)))) toTen ?_
  refine AWL.storeBox (i := 9) rfl rfl rfl ag_122 rfl (E rfl rfl) (E rfl rfl) rfl rfl nB ?_
  refine ya ?_
  refine rs (yf fo_122_0 ?_)
  refine yl ag_4 9 (nl ?_)
  refine AW.cond rfl (fun h14t => ?_) (fun h14f => ?_)
  ·try replace h14t := odt h14t
   refine AW.regionH (HeldCs [(b4, 0, Value.pointer (some ⟨g, pre.length, none⟩)), (g, pre.length + 2, Value.slice a.r x.nr x.nr), (b5, 1, Value.int .i64 i.d), (g, pre.length + 4, Value.slice a.t x.nr x.nr)]) rfl (tells_cs (tcB 6 rfl rfl pinE (tcR 1 rfl fr2 pinV (tcB 7 rfl rfl pinV (tcR 1 rfl fr4 pinV tc0))))) ?_
   refine T2 (i := 0) rfl (heldB (r := .ep (.slice (some ⟨g, 0, none⟩) n c) pre.length) 0 rfl ag_83 (E rfl rfl) rfl (fun _ _ => .ep)) ?_
   refine T2 (i := 1) rfl (heldAll (freeNilEp rfl (E rfl rfl))) ?_
   refine T2 (i := 2) rfl (heldAll (freeFieldEp rfl fo_87_2 (E rfl rfl))) ?_
   refine T2 (i := 3) rfl (heldE 1 rfl ag_84 (E rfl rfl) rfl (fun _ _ => .v _)) ?_
   refine T2 (i := 4) rfl (heldAll (freeField rfl fo_58_1 (E rfl rfl))) ?_
   refine T2 (i := 5) rfl (heldB 2 rfl ag_3 (E rfl rfl) rfl (fun _ _ => .v _)) ?_
   refine T2 (i := 6) rfl (heldB (r := .ep (.slice (some ⟨g, 0, none⟩) n c) pre.length) 0 rfl ag_83 (E rfl rfl) rfl (fun _ _ => .ep)) ?_
   refine T2 (i := 7) rfl (heldAll (freeNilEp rfl (E rfl rfl))) ?_
   refine T2 (i := 8) rfl (heldAll (freeFieldEp rfl fo_87_4 (E rfl rfl))) ?_
   refine T2 (i := 9) rfl (heldE 3 rfl ag_85 (E rfl rfl) rfl (fun _ _ => .v _)) ?_
   refine T2 (i := 10) rfl (heldAll (freeField rfl fo_58_1 (E rfl rfl))) ?_
   refine T2 (i := 11) rfl (heldB 2 rfl ag_3 (E rfl rfl) rfl (fun _ _ => .v _)) ?_
   refine AWH.one (i := 12) (by kernel_rfl) rfl ?_
   refine ym ?_
   refine AWL.nil (kpH (tcB 6 rfl rfl pinE (tcR 1 rfl fr2 pinV (tcB 7 rfl rfl pinV (tcR 1 rfl fr4 pinV tc0)))) ?_)
   refine AWH.one (i := 13) (by kernel_rfl) rfl ?_
   refine Y1 (Yv.indexRow (j := i.d.toNat) rfl ss_84 (i := 2) rfl eV eV (fun hg => ⟨(Int.toNat_of_nonneg hd0).symm, show i.d.toNat < x.nr by omega⟩)) ?_
   refine AWL.nil (kpH (tcB 6 rfl rfl pinE (tcR 1 rfl fr2 pinV (tcB 7 rfl rfl pinV (tcR 1 rfl fr4 pinV tc0)))) ?_)
   refine AWH.one (i := 14) (by kernel_rfl) rfl ?_
   refine AWL.storeEp1 (i := 2) rfl rfl rfl ag_39 rfl (E rfl rfl) (E rfl rfl) rfl rfl (by first | (rw [List.length_map]; omega) | omega) ?_
   refine AWL.nil (kpH (tcB 6 rfl rfl pinE (tcR 1 rfl fr2 pinV (tcB 7 rfl rfl pinV (tcR 1 rfl fr4 pinV tc0)))) ?_)
   refine AWH.one (i := 15) (by kernel_rfl) rfl ?_
   refine Y1 (Yv.indexRow (j := i.d.toNat) rfl ss_85 (i := 4) rfl eV eV (fun hg => ⟨(Int.toNat_of_nonneg hd0).symm, show i.d.toNat < x.nr by omega⟩)) ?_
   refine AWL.nil (kpH (tcB 6 rfl rfl pinE (tcR 1 rfl fr2 pinV (tcB 7 rfl rfl pinV (tcR 1 rfl fr4 pinV tc0)))) ?_)
   refine AWH.one (i := 16) (by kernel_rfl) rfl ?_
   refine AWL.storeEp1 (i := 4) rfl rfl rfl ag_4 rfl (E rfl rfl) (E rfl rfl) rfl rfl (by first | (rw [List.length_map]; omega) | omega) ?_
   refine AWL.nil (kpH (tcB 6 rfl rfl pinE (tcR 1 rfl fr2 pinV (tcB 7 rfl rfl pinV (tcR 1 rfl fr4 pinV tc0)))) ?_)
   refine AWH.done (by kernel_rfl) ?_
   refine rs (yl ag_83 6 ?_)
   refine Y1 (Yv.nilChkEp rfl eV) ?_
   refine Y1 (Yv.fieldEp rfl fo_87_1 eV) ?_
   refine Y1 (Yv.loadEp rfl ag_3 (i := 1) rfl eV (fun hg => fr1)) ?_
   refine Y1 (Yv.addN_i64 rfl eV eV (fun hg => by omega)) ?_
   refine Y1 (Yv.nilChkEp rfl eV) ?_
   refine Y1 (Yv.fieldEp rfl fo_87_1 eV) ?_
   refine AWL.storeEp1 (i := 1) rfl rfl rfl ag_3 rfl (E rfl rfl) (E rfl rfl) rfl rfl (by rw [fr_len]; omega) (nl ?_)
   refine ra ?_
   refine AW.ret (retI (.tmp rfl .nil) ?_)
   refine .inr ⟨hok, v, ok, cc2, l2, ws2, hcq, by rw [hkt]; rfl, ?_⟩
   rw [if_neg h60, if_pos hkt, show frR (goF (setD x i.d v)) a = frR (setD x i.d v) a from rfl, setD_rows, show (pre ++ frC (goF (setD x i.d v)) a) = (pre ++ frC x a).set (pre.length + 1) (zi (x.at_ + 1)) from (fr_jump (pre := pre) (x := x) (a := a) _).symm]
   exact sub_mid2 _ [_, _, _] _ _
  try replace h14f := odf h14f
  rw [hk] at h14f
  cases h14f
 try replace h11f := odf h11f
 exfalso; omega

theorem do32S (s g n c pg wb wm : Nat) (cc : Pc) (lab : T) (pre : List T) (x : Fr) (a : FA) (i : Ins) (l : List Pg) (ws : V.WS) (nb : Nat) (hx : FrOk x) (hl : PgOk l) (hd : cc.prog.data.length ≤ 1048576) (hz0 : 0 ≤ cc.prog.zero) (hz1 : cc.prog.zero ≤ 268435456) (hw : V.RP nb (V.absW ws)) (hnb : nb ≤ 549755813888) (hst : cc.st = 0) (hk : i.kind = 30) (hdr : (hasF i.kind).d = true → 0 ≤ i.d ∧ i.d < (x.nr : Int)) (hr : ∀ r ∈ readsF i, 0 ≤ r ∧ r < (x.nr : Int)) (hat : 0 ≤ x.at_ ∧ x.at_ ≤ 4611686018427387904) (har : ∀ r ∈ i.args, 0 ≤ r ∧ r < (x.nr : Int)) (hg3 : i.args.length ≤ 3) (hg : i.args.length ≤ 1048576) : ACalls Try.prog 32 [.v (.pointer (some ⟨s, 0, none⟩)), .ep (.slice (some ⟨g, 0, none⟩) n c) pre.length, .agg (insCells i)] (([Ent.box s 80 (psC (psOf cc lab (V.wp wb) (mapT pg)) (.v (.slice (some ⟨g, 0, none⟩) n c))), Ent.row (some ⟨g, 0, none⟩) n c 87 7 (pre ++ frC x a)] ++ frR x a) ++ (memE 114 pg l ++ V.WSt wb wm ws)) (fun t S => (okS x.set (readsF i) = false ∧ t = bv false ∧ S = (([Ent.box s 80 (psC (psOf cc lab (V.wp wb) (mapT pg)) (.v (.slice (some ⟨g, 0, none⟩) n c))), Ent.row (some ⟨g, 0, none⟩) n c 87 7 (pre ++ frC x a)] ++ frR x a) ++ (memE 114 pg l ++ V.WSt wb wm ws))) ∨ (okS x.set (readsF i) = true ∧ ∃ v ok cc' l' ws', CQ cc x i l ws v ok cc' l' ws' ∧ t = bv ok ∧ S = (([Ent.box s 80 (psC (psOf cc' lab (V.wp wb) (mapT pg)) (.v (.slice (some ⟨g, 0, none⟩) n c))), Ent.row (some ⟨g, 0, none⟩) n c 87 7 (pre ++ frC (if i.imm = 60 then x else if ok = true then goF (setD x i.d v) else x) a)] ++ frR (if i.imm = 60 then x else if ok = true then goF (setD x i.d v) else x) a) ++ (memE 114 pg l' ++ V.WSt wb wm ws')))) :=
 (do32S_ s g n c pg wb wm cc lab pre x a i l ws nb hx hl hd hz0 hz1 hw hnb hst hk hdr hr hat har hg3 hg).less fun t S' h => by
  rcases h with ⟨h1, h2, h3⟩ | ⟨h1, v, ok, cc', l', ws', h2, h3, h4⟩
  ·exact ⟨_, h3, .inl ⟨h1, h2, rfl⟩⟩
  ·exact ⟨_, h4, .inr ⟨h1, v, ok, cc', l', ws', h2, h3, rfl⟩⟩
end Go.Proofs.Ytlfklgganokgdaa

namespace Go.Proofs.Ytlfklgganokgdaa
open Go Go.RowKit
structure Lay where
 s : Nat
 gl : Nat
 lc : Nat
 pg : Nat
 wb : Nat
 wm : Nat
 bs : List Nat
structure Qp where
 g : Nat
 c : Nat
 a : FA
 K : List (Fr × FA)
 l : List Pg
 ws : V.WS
def rowC : List (Fr × FA) → List T
 | [] => []
 | q :: r => rowC r ++ frC q.1 q.2
def rowsE : List (Fr × FA) → St
 | [] => []
 | q :: r => frR q.1 q.2 ++ rowsE r
theorem rowC_len : ∀ K : List (Fr × FA), (rowC K).length = K.length * 7
 | [] => rfl
 | q :: r => by rw [rowC, List.length_append, rowC_len r, frC_len, List.length_cons]; omega
def labT (L : Lay) (p : Prog) : T := .v (.slice (some ⟨L.gl, 0, none⟩) p.funs.length L.lc)
def psL' (L : Lay) (c : Pc) : PS := psOf c (labT L c.prog) (V.wp L.wb) (mapT L.pg)
def p6 (L : Lay) (c : Pc) (x : Fr) (g cc : Nat) (a : FA) (K : List (Fr × FA)) : St :=
 [Ent.box L.s 80 (psC (psL' L c) (.v (.slice (some ⟨g, 0, none⟩) (K.length + 1) cc))), Ent.row (some ⟨g, 0, none⟩) (K.length + 1) cc 87 7 (rowC K ++ frC x a)] ++ frR x a
def memW (L : Lay) (l : List Pg) (ws : V.WS) : St := memE 114 L.pg l ++ V.WSt L.wb L.wm ws
def labE (L : Lay) (p : Prog) : St := Ent.row (some ⟨L.gl, 0, none⟩) p.funs.length L.lc 53 1 (L.bs.map mapT) :: mapsE L.bs p.funs
def SP (L : Lay) (m : Mc) (q : Qp) : St := p6 L m.c m.x q.g q.c q.a q.K ++ (memW L q.l q.ws ++ (rowsE q.K ++ labE L m.c.prog))
structure Rel (m : Mc) (q : Qp) : Prop where
 bl : q.K.map (·.1) = m.bl
 ok : PgOk q.l
 mem : getM q.l = m.mem
 w : V.absW q.ws = m.w
def cpT (q : Qp) : T := .ep (.slice (some ⟨q.g, 0, none⟩) (q.K.length + 1) q.c) (rowC q.K).length
theorem mapsE_at {bs : List Nat} {fs : List Fn} {f : Nat} (h : f < fs.length) (hb : bs.length = fs.length) : ∃ R, (mapsE bs fs).Perm (Ent.map (bs.getD f 0) (lmT (whL (fs.getD f default).code)) :: R) := by
 have hz : f < (bs.zip fs).length := by rw [List.length_zip]; omega
 have e : (bs.zip fs) = (bs.zip fs).take f ++ (bs.zip fs)[f] :: (bs.zip fs).drop (f + 1) := by rw [← List.drop_eq_getElem_cons hz, List.take_append_drop]
 refine ⟨(((bs.zip fs).take f).map fun q => Ent.map q.1 (lmT (whL q.2.code))) ++ (((bs.zip fs).drop (f + 1)).map fun q => Ent.map q.1 (lmT (whL q.2.code))), ?_⟩
 unfold mapsE
 conv => lhs; rw [e]
 rw [List.map_append, List.map_cons]
 refine List.perm_middle.trans ?_
 rw [List.getElem_zip]
 refine List.Perm.of_eq ?_
 congr 2
 ·show bs[f] = bs.getD f 0
  rw [List.getD_eq_getElem?_getD, List.getElem?_eq_getElem (by omega)]; rfl
 rw [gd h]
theorem pJ {A X Y MP R : St} {LR LM : Ent} (h : MP.Perm (LM :: R)) : (A ++ (X ++ (Y ++ (LR :: MP)))).Perm ((A ++ [LR, LM]) ++ (X ++ (Y ++ R))) := by
 rw [List.append_assoc]
 refine List.Perm.append_left A ?_
 refine List.Perm.trans (((h.cons LR).append_left Y).append_left X) ?_
 show (X ++ (Y ++ ([LR, LM] ++ R))).Perm ([LR, LM] ++ (X ++ (Y ++ R)))
 exact ((List.perm_append_comm_assoc Y [LR, LM] R).append_left X).trans (List.perm_append_comm_assoc X [LR, LM] (Y ++ R))
theorem pC {A C X Y Z : St} : (A ++ (X ++ ((C ++ Y) ++ Z))).Perm ((A ++ C) ++ (X ++ (Y ++ Z))) := by
 rw [List.append_assoc A C, List.append_assoc C Y]
 exact (List.perm_append_comm_assoc X C (Y ++ Z)).append_left A
theorem pM {A X W Y : St} : (A ++ ((X ++ W) ++ Y)).Perm ((A ++ X) ++ (W ++ Y)) := by
 rw [List.append_assoc, List.append_assoc]
theorem pS {A X Y : St} : (A ++ (X ++ Y)).Perm ((A ++ X) ++ Y) := by rw [List.append_assoc]
section
variable {p : Prog} {x : Fr}
theorem FrIn.nrI (hp : ProgOk p) (h : FrIn p x) : (x.nr : Int) = (fnOf p x).regs := by
 have h1 := h.fn hp
 have := h1.par0
 have := h1.par2
 rw [h.nr]; omega
theorem FrIn.nsI (hp : ProgOk p) (h : FrIn p x) : (x.ns : Int) = (fnOf p x).slots := by
 have := (h.fn hp).slot0
 rw [h.ns]; omega
structure InsB (x : Fr) (i : Ins) : Prop where
 a : (hasF i.kind).a = true → 0 ≤ i.a ∧ i.a < (x.nr : Int)
 b : (hasF i.kind).b = true → 0 ≤ i.b ∧ i.b < (x.nr : Int)
 d : (hasF i.kind).d = true → 0 ≤ i.d ∧ i.d < (x.nr : Int)
 args : (hasF i.kind).args = true → ∀ r ∈ i.args, 0 ≤ r ∧ r < (x.nr : Int)
 slot : i.kind = 31 ∨ i.kind = 32 → 0 ≤ i.imm ∧ i.imm < (x.ns : Int)
 rd : ∀ r ∈ readsF i, 0 ≤ r ∧ r < (x.nr : Int)
 len : i.args.length ≤ 1048576
 at_ : 0 ≤ x.at_ ∧ x.at_ ≤ 4611686018427387904
theorem FrIn.bounds (hp : ProgOk p) (hpi : ProgIn p) (h : FrIn p x) : InsB x (insOf p x) := by
 have io := h.ins hp
 have e := h.nrI hp
 have ha : (hasF (insOf p x).kind).a = true → 0 ≤ (insOf p x).a ∧ (insOf p x).a < (x.nr : Int) := fun q => by rw [e]; exact io.a q
 have hb : (hasF (insOf p x).kind).b = true → 0 ≤ (insOf p x).b ∧ (insOf p x).b < (x.nr : Int) := fun q => by rw [e]; exact io.b q
 have hg : (hasF (insOf p x).kind).args = true → ∀ r ∈ (insOf p x).args, 0 ≤ r ∧ r < (x.nr : Int) := fun q r hr => by rw [e]; exact (io.args q).1 r hr
 refine ⟨ha, hb, fun q => by rw [e]; exact io.d q, hg, fun q => by rw [h.nsI hp]; exact io.slot q, fun r hr => ?_, ?_, h.a0, ?_⟩
 ·unfold readsF rd2 rd1 at hr
  rcases List.mem_append.1 hr with hr | hr
  ·rcases List.mem_append.1 hr with hr | hr
   ·split at hr
    ·rename_i q
     rw [List.mem_singleton.1 hr]; exact ha q
    cases hr
   split at hr
   ·rename_i q
    rw [List.mem_singleton.1 hr]; exact hb q
   cases hr
  split at hr
  ·rename_i q
   exact hg q r hr
  cases hr
 ·exact ((hpi.fn _ (getD_mem h.f1)).ins _ (getD_mem h.a1)).args
 have := h.a1
 have h2 : (fnOf p x).code.length ≤ 1048576 := (hpi.fn _ (getD_mem h.f1)).code
 have := h.a0
 omega
end
theorem isF_in {k : Int} (h : isF k = true) : 1 ≤ k ∧ k ≤ 32 := by
 unfold isF ofF at h
 by_cases q : 1 ≤ k ∧ k ≤ 32
 ·exact q
 exfalso
 repeat (first | (rw [if_neg (by omega)] at h) | (cases h))
/-! ### the step, kind by kind -/
section
variable {RF : Int → Wd64 → Wd64 → Wd64} {L : Lay} {p : Prog} {m : Mc} {q : Qp} {nb : Nat}
def StepR (RF : Int → Wd64 → Wd64 → Wd64) (L : Lay) (m : Mc) (i : Ins) (t : T) (S : St) : Prop :=
 ∃ m' q', t = bv (stepM RF m i).isSome ∧ m' = (stepM RF m i).getD m ∧ Rel m' q' ∧ S = SP L m' q'
theorem step_0 {i : Ins} (h : okS m.x.set (readsF i) = false) : stepM RF m i = none := by rw [stepM, if_pos h]
theorem stepJ {i : Ins} (h0 : okS m.x.set (readsF i) = true) (hk : i.kind = 20 ∨ i.kind = 21) : stepM RF m i = some { m with x := jmpF m.c.prog m.x i } := by rw [stepM, if_neg (by rw [h0]; decide), if_pos hk]
theorem stepB {i : Ins} (h0 : okS m.x.set (readsF i) = true) (hk : i.kind = 26) : stepM RF m i = some (backM m (rA m.x i.a)) := by rw [stepM, if_neg (by rw [h0]; decide), if_neg (by omega), if_pos hk]
theorem stepC {i : Ins} (h0 : okS m.x.set (readsF i) = true) (hk : i.kind = 22 ∨ i.kind = 23 ∨ i.kind = 24 ∨ i.kind = 25) : stepM RF m i = jumpM m i := by rw [stepM, if_neg (by rw [h0]; decide), if_neg (by omega), if_neg (by omega), if_pos hk]
theorem stepSt {i : Ins} (h0 : okS m.x.set (readsF i) = true) (hk : i.kind = 18) : stepM RF m i = if memOk m.c (adF m.x i) i.size = true then some { m with x := goF m.x, mem := putsF m.mem (adF m.x i) (rA m.x i.b) i.size.toNat } else none := by rw [stepM, if_neg (by rw [h0]; decide), if_neg (by omega), if_neg (by omega), if_neg (by omega), if_pos hk]
theorem stepLd {i : Ins} (h0 : okS m.x.set (readsF i) = true) (hk : i.kind = 17) : stepM RF m i = if memOk m.c (adF m.x i) i.size = true then some { m with x := goF (setD m.x i.d (leF m.mem (adF m.x i) i.size.toNat)) } else none := by rw [stepM, if_neg (by rw [h0]; decide), if_neg (by omega), if_neg (by omega), if_neg (by omega), if_neg (by omega), if_pos hk]
theorem stepSy {i : Ins} (h0 : okS m.x.set (readsF i) = true) (hk : i.kind = 30) : stepM RF m i = sysM m i := by rw [stepM, if_neg (by rw [h0]; decide), if_neg (by omega), if_neg (by omega), if_neg (by omega), if_neg (by omega), if_neg (by omega), if_pos hk]
theorem stepV {i : Ins} (hk : valK i.kind ∨ i.kind = 32) (h17 : ¬ i.kind = 17) (h18 : ¬ i.kind = 18) : stepM RF m i = (stepA RF m.c.heap m.x i).map fun x => { m with x := x } := by
 unfold valK at hk
 cases h0 : okS m.x.set (readsF i) with
 | false => rw [step_0 h0, stepA, if_pos h0]; rfl
 | true => rw [stepM, if_neg (by rw [h0]; decide), if_neg (by omega), if_neg (by omega), if_neg (by omega), if_neg h18, if_neg h17, if_neg (by omega)]
theorem doV (hm : MOk p m) (hp : ProgOk p) (hpi : ProgIn p) (hq : Rel m q) (hk : valK (insOf p m.x).kind ∨ (insOf p m.x).kind = 32) (hRF : ∀ k a b, 1 ≤ k → k ≤ 8 → ACalls Try.prog 72 [zi k, zw a, zw b] [] (fun t S => t = zw (RF k a b))) :
    ACalls Try.prog 32 [.v (.pointer (some ⟨L.s, 0, none⟩)), cpT q, .agg (insCells (insOf p m.x))] (SP L m q) (StepR RF L m (insOf p m.x)) := by
 have hb := hm.top.bounds hp hpi
 have io := hm.top.ins hp
 have h1 := do32A RF L.s q.g (q.K.length + 1) q.c (psL' L m.c) (rowC q.K) m.x q.a (insOf p m.x) hm.top.ok hk hb.a hb.b hb.slot (fun h => hRF _ _ _ (io.real h).1 (io.real h).2) hb.d hb.rd hb.len hb.at_
 refine ACalls.part (memW L q.l q.ws ++ (rowsE q.K ++ labE L m.c.prog)) h1 (List.Perm.refl _) (fun t S' h => ?_)
 obtain ⟨e1, e2⟩ := h
 have hs : stepM RF m (insOf p m.x) = (stepA RF m.c.heap m.x (insOf p m.x)).map fun x => { m with x := x } := by
  have hk' := hk
  unfold valK at hk'
  exact stepV hk (by omega) (by omega)
 have hh : (psL' L m.c).heap = m.c.heap := rfl
 rw [hh] at e1 e2
 cases hA : stepA RF m.c.heap m.x (insOf p m.x) with
 | none =>
  rw [hA] at e1 e2 hs
  refine ⟨_, List.Perm.refl _, m, q, ?_, ?_, hq, ?_⟩
  ·rw [hs]; exact e1
  ·rw [hs]; rfl
  ·rw [e2]; rfl
 | some x' =>
  rw [hA] at e1 e2 hs
  refine ⟨_, List.Perm.refl _, { m with x := x' }, q, ?_, ?_, ⟨hq.bl, hq.ok, hq.mem, hq.w⟩, ?_⟩
  ·rw [hs]; exact e1
  ·rw [hs]; rfl
  ·rw [e2]; rfl
theorem doJ (hm : MOk p m) (hp : ProgOk p) (hpi : ProgIn p) (hq : Rel m q) (hbs : L.bs.length = p.funs.length) (hk : (insOf p m.x).kind = 20 ∨ (insOf p m.x).kind = 21) :
    ACalls Try.prog 32 [.v (.pointer (some ⟨L.s, 0, none⟩)), cpT q, .agg (insCells (insOf p m.x))] (SP L m q) (StepR RF L m (insOf p m.x)) := by
 have hb := hm.top.bounds hp hpi
 have hpr := hm.prog
 have h1 := do32J L.s q.g (q.K.length + 1) q.c L.gl m.c.prog.funs.length L.lc (psL' L m.c) (rowC q.K) m.x q.a (insOf p m.x) L.bs (whL (fnOf p m.x).code) hm.top.ok rfl (by rw [hpr]; exact hbs) hm.top.f0 (by rw [hpr]; exact hm.top.f1) hk hb.a hb.b hb.rd hb.len hb.at_
 obtain ⟨R, hR⟩ := mapsE_at (bs := L.bs) (fs := m.c.prog.funs) (f := m.x.f.toNat) (by rw [hpr]; exact hm.top.f1) (by rw [hpr]; exact hbs)
 have hR' : (mapsE L.bs m.c.prog.funs).Perm (Ent.map (L.bs.getD m.x.f.toNat 0) (lmT (whL (fnOf p m.x).code)) :: R) := by
  unfold fnOf; rw [← hpr]; exact hR
 refine ACalls.part (memW L q.l q.ws ++ (rowsE q.K ++ R)) h1 (pJ (A := p6 L m.c m.x q.g q.c q.a q.K) hR') (fun t S' h => ?_)
 obtain ⟨e1, e2⟩ := h
 cases h0 : okS m.x.set (readsF (insOf p m.x)) with
 | false =>
  rw [h0] at e1 e2
  have hs := step_0 (RF := RF) h0
  refine ⟨SP L m q, ?_, m, q, ?_, ?_, hq, rfl⟩
  ·rw [e2]; exact pJ (A := p6 L m.c m.x q.g q.c q.a q.K) hR'
  ·rw [hs]; exact e1
  ·rw [hs]; rfl
 | true =>
  rw [h0] at e1 e2
  have hs := stepJ (RF := RF) h0 hk
  refine ⟨SP L { m with x := jmpF m.c.prog m.x (insOf p m.x) } q, ?_, { m with x := jmpF m.c.prog m.x (insOf p m.x) }, q, ?_, ?_, ⟨hq.bl, hq.ok, hq.mem, hq.w⟩, rfl⟩
  ·rw [e2, if_pos rfl]
   have e3 : jmpF m.c.prog m.x (insOf p m.x) = { m.x with at_ := if (insOf p m.x).kind = 20 ∨ holdsF (insOf p m.x).cond (rA m.x (insOf p m.x).a) (rA m.x (insOf p m.x).b) = true then getL (insOf p m.x).l (whL (fnOf p m.x).code) else m.x.at_ + 1 } := by
    unfold jmpF whereOf; rw [hpr]
   rw [← e3]
   exact pJ (A := p6 L m.c (jmpF m.c.prog m.x (insOf p m.x)) q.g q.c q.a q.K) hR'
  ·rw [hs]; exact e1
  ·rw [hs]; rfl
theorem doSt (hm : MOk p m) (hp : ProgOk p) (hpi : ProgIn p) (hq : Rel m q) (hk : (insOf p m.x).kind = 18) :
    ACalls Try.prog 32 [.v (.pointer (some ⟨L.s, 0, none⟩)), cpT q, .agg (insCells (insOf p m.x))] (SP L m q) (StepR RF L m (insOf p m.x)) := by
 have hb := hm.top.bounds hp hpi
 have hpr := hm.prog
 have h1 := do32St L.s q.g (q.K.length + 1) q.c L.pg (psL' L m.c) (rowC q.K) m.x q.a (insOf p m.x) q.l hm.top.ok rfl hq.ok (by show m.c.prog.data.length ≤ _; rw [hpr]; exact hpi.data) (by show 0 ≤ m.c.prog.zero; rw [hpr]; exact hp.zero.1) (by show m.c.prog.zero ≤ _; rw [hpr]; exact hp.zero.2) hk hb.a hb.b hb.d hb.rd hb.len hb.at_
 refine ACalls.part (V.WSt L.wb L.wm q.ws ++ (rowsE q.K ++ labE L m.c.prog)) h1 (pM (A := p6 L m.c m.x q.g q.c q.a q.K)) (fun t S' h => ?_)
 obtain ⟨e1, l', e2, hl', hg'⟩ := h
 have hmo : (sizeOk (insOf p m.x).size && thereF (psData (psL' L m.c).prog) (psL' L m.c).heap (adF m.x (insOf p m.x)) (wI (insOf p m.x).size)) = memOk m.c (adF m.x (insOf p m.x)) (insOf p m.x).size := rfl
 rw [hmo] at e1 e2 hg'
 cases h0 : okS m.x.set (readsF (insOf p m.x)) with
 | false =>
  rw [h0] at e1 e2 hg'
  have hs := step_0 (RF := RF) h0
  refine ⟨SP L m { q with l := l' }, ?_, m, { q with l := l' }, ?_, ?_, ⟨hq.bl, hl', hg'.trans hq.mem, hq.w⟩, rfl⟩
  ·rw [e2]; exact pM (A := p6 L m.c m.x q.g q.c q.a q.K)
  ·rw [hs]; exact e1
  ·rw [hs]; rfl
 | true =>
  rw [h0, Bool.true_and] at e1 e2 hg'
  have hs := stepSt (RF := RF) h0 hk
  cases hmk : memOk m.c (adF m.x (insOf p m.x)) (insOf p m.x).size with
  | false =>
   rw [hmk] at e1 e2 hg' hs
   refine ⟨SP L m { q with l := l' }, ?_, m, { q with l := l' }, ?_, ?_, ⟨hq.bl, hl', hg'.trans hq.mem, hq.w⟩, rfl⟩
   ·rw [e2]; exact pM (A := p6 L m.c m.x q.g q.c q.a q.K)
   ·rw [hs]; exact e1
   ·rw [hs]; rfl
  | true =>
   rw [hmk] at e1 e2 hg' hs
   refine ⟨SP L { m with x := goF m.x, mem := putsF m.mem (adF m.x (insOf p m.x)) (rA m.x (insOf p m.x).b) (insOf p m.x).size.toNat } { q with l := l' }, ?_, { m with x := goF m.x, mem := putsF m.mem (adF m.x (insOf p m.x)) (rA m.x (insOf p m.x).b) (insOf p m.x).size.toNat }, { q with l := l' }, ?_, ?_, ⟨hq.bl, hl', ?_, hq.w⟩, rfl⟩
   ·rw [e2]; exact pM (A := p6 L m.c (goF m.x) q.g q.c q.a q.K)
   ·rw [hs]; exact e1
   ·rw [hs]; rfl
   ·show getM l' = putsF m.mem _ _ _
    rw [hg', if_pos rfl, hq.mem]
theorem doLd (hm : MOk p m) (hp : ProgOk p) (hpi : ProgIn p) (hq : Rel m q) (hk : (insOf p m.x).kind = 17) :
    ACalls Try.prog 32 [.v (.pointer (some ⟨L.s, 0, none⟩)), cpT q, .agg (insCells (insOf p m.x))] (SP L m q) (StepR RF L m (insOf p m.x)) := by
 have hb := hm.top.bounds hp hpi
 have hpr := hm.prog
 have h1 := do32Ld L.s q.g (q.K.length + 1) q.c L.pg (psL' L m.c) (rowC q.K) m.x q.a (insOf p m.x) q.l hm.top.ok rfl hq.ok (by show m.c.prog.data.length ≤ _; rw [hpr]; exact hpi.data) (by show 0 ≤ m.c.prog.zero; rw [hpr]; exact hp.zero.1) (by show m.c.prog.zero ≤ _; rw [hpr]; exact hp.zero.2) hk hb.a hb.b hb.d hb.rd hb.len hb.at_
 refine ACalls.part (V.WSt L.wb L.wm q.ws ++ (rowsE q.K ++ labE L m.c.prog)) h1 (pM (A := p6 L m.c m.x q.g q.c q.a q.K)) (fun t S' h => ?_)
 obtain ⟨e1, e2⟩ := h
 have hmo : (sizeOk (insOf p m.x).size && thereF (psData (psL' L m.c).prog) (psL' L m.c).heap (adF m.x (insOf p m.x)) (wI (insOf p m.x).size)) = memOk m.c (adF m.x (insOf p m.x)) (insOf p m.x).size := rfl
 rw [hmo] at e1 e2
 cases h0 : okS m.x.set (readsF (insOf p m.x)) with
 | false =>
  rw [h0] at e1 e2
  have hs := step_0 (RF := RF) h0
  refine ⟨SP L m q, ?_, m, q, ?_, ?_, hq, rfl⟩
  ·rw [e2]; exact pM (A := p6 L m.c m.x q.g q.c q.a q.K)
  ·rw [hs]; exact e1
  ·rw [hs]; rfl
 | true =>
  rw [h0, Bool.true_and] at e1 e2
  have hs := stepLd (RF := RF) h0 hk
  cases hmk : memOk m.c (adF m.x (insOf p m.x)) (insOf p m.x).size with
  | false =>
   rw [hmk] at e1 e2 hs
   refine ⟨SP L m q, ?_, m, q, ?_, ?_, hq, rfl⟩
   ·rw [e2]; exact pM (A := p6 L m.c m.x q.g q.c q.a q.K)
   ·rw [hs]; exact e1
   ·rw [hs]; rfl
  | true =>
   rw [hmk] at e1 e2 hs
   rw [hq.mem] at e2
   refine ⟨SP L { m with x := goF (setD m.x (insOf p m.x).d (leF m.mem (adF m.x (insOf p m.x)) (insOf p m.x).size.toNat)) } q, ?_, { m with x := goF (setD m.x (insOf p m.x).d (leF m.mem (adF m.x (insOf p m.x)) (insOf p m.x).size.toNat)) }, q, ?_, ?_, ⟨hq.bl, hq.ok, hq.mem, hq.w⟩, rfl⟩
   ·rw [e2]; exact pM (A := p6 L m.c (goF (setD m.x (insOf p m.x).d (leF m.mem (adF m.x (insOf p m.x)) (insOf p m.x).size.toNat))) q.g q.c q.a q.K)
   ·rw [hs]; exact e1
   ·rw [hs]; rfl
theorem doB (hm : MOk p m) (hp : ProgOk p) (hpi : ProgIn p) (hq : Rel m q) (hk : (insOf p m.x).kind = 26) :
    ACalls Try.prog 32 [.v (.pointer (some ⟨L.s, 0, none⟩)), cpT q, .agg (insCells (insOf p m.x))] (SP L m q) (StepR RF L m (insOf p m.x)) := by
 have hb := hm.top.bounds hp hpi
 have ha := hb.a (by rw [hk]; rfl)
 obtain ⟨g, c, a, K, l, ws⟩ := q
 cases K with
 | nil =>
  have hbl : m.bl = [] := hq.bl.symm
  have h1 := do32R1 L.s g c (psL' L m.c) m.x a (insOf p m.x) hm.top.ok hk ha hb.rd hb.len
  refine ACalls.part (memW L l ws ++ (rowsE [] ++ labE L m.c.prog)) h1 (List.Perm.refl _) (fun t S' h => ?_)
  obtain ⟨e1, e2⟩ := h
  cases h0 : okS m.x.set (readsF (insOf p m.x)) with
  | false =>
   rw [h0] at e1 e2
   have hs := step_0 (RF := RF) h0
   refine ⟨_, List.Perm.refl _, m, ⟨g, c, a, [], l, ws⟩, ?_, ?_, hq, ?_⟩
   ·rw [hs]; exact e1
   ·rw [hs]; rfl
   ·rw [e2]; rfl
  | true =>
   rw [h0] at e1 e2
   have hs := stepB (RF := RF) h0 hk
   have e3 : backM m (rA m.x (insOf p m.x).a) = { m with c := backC m.c (rA m.x (insOf p m.x).a) } := by
    unfold backM; rw [hbl]
   have hpc : (backC m.c (rA m.x (insOf p m.x).a)).prog = m.c.prog := by unfold backC; split <;> rfl
   refine ⟨_, List.Perm.refl _, { m with c := backC m.c (rA m.x (insOf p m.x).a) }, ⟨g, c, a, [], l, ws⟩, ?_, ?_, ⟨hq.bl, hq.ok, hq.mem, hq.w⟩, ?_⟩
   ·rw [hs]; exact e1
   ·rw [hs, e3]; rfl
   ·rw [e2, if_pos rfl]
    show _ = p6 L (backC m.c (rA m.x (insOf p m.x).a)) m.x g c a [] ++ (memW L l ws ++ (rowsE [] ++ labE L (backC m.c (rA m.x (insOf p m.x).a)).prog))
    rw [hpc]
    unfold p6 psL'
    rw [hpc, ← back_ps]; rfl
 | cons yb K' =>
  obtain ⟨y, b⟩ := yb
  have hbl : m.bl = y :: K'.map (·.1) := hq.bl.symm
  have hy : FrIn p y := hm.bl y (by rw [hbl]; exact List.mem_cons_self ..)
  have hd : 0 ≤ m.x.d ∧ m.x.d < (y.nr : Int) := by
   have h := hm.ch
   rw [hbl] at h
   exact h.1
  have hdep : K'.length ≤ 1048576 := by
   have h := hm.dep
   rw [hbl, List.length_cons, List.length_map] at h
   omega
  have h1 := do32RM L.s g c K'.length (psL' L m.c) (rowC K') y b m.x a (insOf p m.x) (rowC_len K') hdep hy.ok hd hm.top.ok hk ha hb.rd hb.len
  refine ACalls.part (memW L l ws ++ (rowsE K' ++ labE L m.c.prog)) h1 (pC (A := p6 L m.c m.x g c a ((y, b) :: K')) (C := frR y b)) (fun t S' h => ?_)
  rcases h with ⟨h0, e1, e2⟩ | ⟨h0, e1, e2⟩
  ·have hs := step_0 (RF := RF) h0
   refine ⟨SP L m ⟨g, c, a, (y, b) :: K', l, ws⟩, ?_, m, ⟨g, c, a, (y, b) :: K', l, ws⟩, ?_, ?_, hq, rfl⟩
   ·rw [e2]; exact pC (A := p6 L m.c m.x g c a ((y, b) :: K')) (C := frR y b)
   ·rw [hs]; exact e1
   ·rw [hs]; rfl
  ·have hs := stepB (RF := RF) h0 hk
   have e3 : backM m (rA m.x (insOf p m.x).a) = { m with x := setD y m.x.d (rA m.x (insOf p m.x).a), bl := K'.map (·.1) } := by
    unfold backM; rw [hbl]
   refine ⟨_, List.Perm.refl _, { m with x := setD y m.x.d (rA m.x (insOf p m.x).a), bl := K'.map (·.1) }, ⟨g, c, b, K', l, ws⟩, ?_, ?_, ⟨rfl, hq.ok, hq.mem, hq.w⟩, ?_⟩
   ·rw [hs]; exact e1
   ·rw [hs, e3]; rfl
   ·rw [e2]; rfl
theorem doC (hm : MOk p m) (hp : ProgOk p) (hpi : ProgIn p) (hq : Rel m q) (hk : (insOf p m.x).kind = 22 ∨ (insOf p m.x).kind = 23 ∨ (insOf p m.x).kind = 24 ∨ (insOf p m.x).kind = 25) :
    ACalls Try.prog 32 [.v (.pointer (some ⟨L.s, 0, none⟩)), cpT q, .agg (insCells (insOf p m.x))] (SP L m q) (StepR RF L m (insOf p m.x)) := by
 have hb := hm.top.bounds hp hpi
 have io := hm.top.ins hp
 have hpr := hm.prog
 have hargs : (hasF (insOf p m.x).kind).args = true := by rcases hk with h | h | h | h <;> rw [h] <;> rfl
 have hlen : m.bl.length = q.K.length := by rw [← hq.bl, List.length_map]
 have hdep := hm.dep
 have h1 := do32C L.s q.g q.c q.K.length (psL' L m.c) (rowC q.K) m.x q.a (insOf p m.x) hm.top.ok (rowC_len q.K) (by omega) hk (by show ProgOk m.c.prog; rw [hpr]; exact hp) (by show m.c.prog.funs.length ≤ _; rw [hpr]; exact hpi.funs) hb.a (hb.args hargs) hb.len (fun h => by
  show (_ ∧ _ < m.c.prog.funs.length) ∧ _ = parF m.c.prog _
  rw [hpr]; exact ⟨io.fn h, io.par hargs h⟩) hb.rd hb.at_
 refine ACalls.part (memW L q.l q.ws ++ (rowsE q.K ++ labE L m.c.prog)) h1 (List.Perm.refl _) (fun t S' h => ?_)
 rcases h with ⟨h0, e1, e2⟩ | ⟨h0, b, e1, hJ⟩
 ·have hs := step_0 (RF := RF) h0
  refine ⟨_, List.Perm.refl _, m, q, ?_, ?_, hq, ?_⟩
  ·rw [hs]; exact e1
  ·rw [hs]; rfl
  rw [e2]; rfl
 have hs := stepC (RF := RF) h0 hk
 unfold JQ at hJ
 have hpp : (psL' L m.c).prog = m.c.prog := rfl
 rw [hpp] at hJ
 unfold jumpM at hs
 cases hc : calleeF m.c.prog m.x (insOf p m.x) with
 | none =>
  rw [hc] at hJ hs
  obtain ⟨rfl, e2⟩ := hJ
  refine ⟨_, List.Perm.refl _, m, q, ?_, ?_, hq, ?_⟩
  ·rw [hs]; exact e1
  ·rw [hs]; rfl
  ·rw [e2]; rfl
 | some f =>
  rw [hc] at hJ hs
  dsimp only at hJ hs
  split at hJ
  ·rename_i h24
   rw [if_pos h24] at hs
   obtain ⟨rfl, g', c', a', e2⟩ := hJ
   refine ⟨_, List.Perm.refl _, { m with x := openFr (m.c.prog.funs.getD f default) f (argsF m.x (insOf p m.x)) m.x.d }, { q with g := g', c := c', a := a' }, ?_, ?_, ⟨hq.bl, hq.ok, hq.mem, hq.w⟩, ?_⟩
   ·rw [hs]; exact e1
   ·rw [hs]; rfl
   ·rw [e2]; rfl
  ·rename_i h24
   rw [if_neg h24] at hs
   rw [← hlen] at hJ
   split at hJ
   ·rename_i hmx
    rw [if_pos hmx] at hs
    obtain ⟨rfl, e2⟩ := hJ
    refine ⟨_, List.Perm.refl _, m, q, ?_, ?_, hq, ?_⟩
    ·rw [hs]; exact e1
    ·rw [hs]; rfl
    ·rw [e2, hlen]; rfl
   ·rename_i hmx
    rw [if_neg hmx] at hs
    obtain ⟨rfl, g', c', a', e2⟩ := hJ
    rw [hlen] at e2
    refine ⟨SP L { m with x := openFr (m.c.prog.funs.getD f default) f (argsF m.x (insOf p m.x)) (insOf p m.x).d, bl := callF m.c.strict m.x :: m.bl } ⟨g', c', a', (callF m.c.strict m.x, q.a) :: q.K, q.l, q.ws⟩, ?_, { m with x := openFr (m.c.prog.funs.getD f default) f (argsF m.x (insOf p m.x)) (insOf p m.x).d, bl := callF m.c.strict m.x :: m.bl }, ⟨g', c', a', (callF m.c.strict m.x, q.a) :: q.K, q.l, q.ws⟩, ?_, ?_, ⟨by rw [List.map_cons, hq.bl], hq.ok, hq.mem, hq.w⟩, rfl⟩
    ·rw [e2]
     exact pC (A := p6 L m.c (openFr (m.c.prog.funs.getD f default) f (argsF m.x (insOf p m.x)) (insOf p m.x).d) g' c' a' ((callF m.c.strict m.x, q.a) :: q.K)) (C := frR (callF m.c.strict m.x) q.a)
    ·rw [hs]; exact e1
    ·rw [hs]; rfl
theorem doSy (hm : MOk p m) (hp : ProgOk p) (hpi : ProgIn p) (hq : Rel m q) (hst : m.c.st = 0) (hw : V.RP nb m.w) (hnb : nb ≤ 549755813888) (hk : (insOf p m.x).kind = 30) :
    ACalls Try.prog 32 [.v (.pointer (some ⟨L.s, 0, none⟩)), cpT q, .agg (insCells (insOf p m.x))] (SP L m q) (StepR RF L m (insOf p m.x)) := by
 have hb := hm.top.bounds hp hpi
 have io := hm.top.ins hp
 have hpr := hm.prog
 have hargs : (hasF (insOf p m.x).kind).args = true := by rw [hk]; rfl
 have h3 := (io.args hargs).2
 rw [hk] at h3
 have h1 := do32S L.s q.g (q.K.length + 1) q.c L.pg L.wb L.wm m.c (labT L m.c.prog) (rowC q.K) m.x q.a (insOf p m.x) q.l q.ws nb hm.top.ok hq.ok (by rw [hpr]; exact hpi.data) (by rw [hpr]; exact hp.zero.1) (by rw [hpr]; exact hp.zero.2) (by rw [hq.w]; exact hw) hnb hst hk hb.d hb.rd hb.at_ (hb.args hargs) (by have : mostF 30 = 3 := rfl; omega) hb.len
 refine ACalls.part (rowsE q.K ++ labE L m.c.prog) h1 pS (fun t S' h => ?_)
 rcases h with ⟨h0, e1, e2⟩ | ⟨h0, v, ok, cc', l', ws', hcq, e1, e2⟩
 ·have hs := step_0 (RF := RF) h0
  refine ⟨SP L m q, ?_, m, q, ?_, ?_, hq, rfl⟩
  ·rw [e2]; exact pS
  ·rw [hs]; exact e1
  rw [hs]; rfl
 have hs := stepSy (RF := RF) h0 hk
 unfold sysM at hs
 have hsr : sysR ⟨m.c, m.x, [], getM q.l, V.absW q.ws⟩ (insOf p m.x) = sysR m (insOf p m.x) := by
  unfold sysR; rw [hq.mem, hq.w]
 rcases hcq with ⟨h60, rfl, rfl, rfl, rfl, rfl⟩ | ⟨h60, rfl, hc⟩
 ·rw [if_pos h60] at hs e2
  refine ⟨SP L { m with c := { m.c with st := 1, code := codeOf (sysA m.x (insOf p m.x) 0) } } q, ?_, { m with c := { m.c with st := 1, code := codeOf (sysA m.x (insOf p m.x) 0) } }, q, ?_, ?_, ⟨hq.bl, hq.ok, hq.mem, hq.w⟩, rfl⟩
  ·rw [e2]; exact pS
  ·rw [hs]; exact e1
  rw [hs]; rfl
 rw [if_neg h60] at hs e2
 rw [hsr] at hc
 rcases hc with ⟨hc, rfl, rfl, rfl, rfl⟩ | ⟨r, hc, rfl, rfl, hl', hg', hw'⟩
 ·rw [hc] at hs
  refine ⟨SP L m q, ?_, m, q, ?_, ?_, hq, rfl⟩
  ·rw [e2]; exact pS
  ·rw [hs]; exact e1
  rw [hs]; rfl
 rw [hc] at hs
 refine ⟨SP L { m with x := goF (setD m.x (insOf p m.x).d (wI r.n)), mem := r.mem, w := r.w } { q with l := l', ws := ws' }, ?_, { m with x := goF (setD m.x (insOf p m.x).d (wI r.n)), mem := r.mem, w := r.w }, { q with l := l', ws := ws' }, ?_, ?_, ⟨hq.bl, hl', hg', hw'⟩, rfl⟩
 ·rw [e2]; exact pS
 ·rw [hs]; exact e1
 rw [hs]; rfl
theorem step32 (hRF : ∀ k a b, 1 ≤ k → k ≤ 8 → ACalls Try.prog 72 [zi k, zw a, zw b] [] (fun t S => t = zw (RF k a b))) (hm : MOk p m) (hp : ProgOk p) (hpi : ProgIn p) (hbs : L.bs.length = p.funs.length) (hq : Rel m q) (hst : m.c.st = 0) (hw : V.RP nb m.w) (hnb : nb ≤ 549755813888) (h19 : (insOf p m.x).kind ≠ 19) :
    ACalls Try.prog 32 [.v (.pointer (some ⟨L.s, 0, none⟩)), cpT q, .agg (insCells (insOf p m.x))] (SP L m q) (StepR RF L m (insOf p m.x)) := by
 have hi := isF_in (hm.top.ins hp).is
 by_cases hJ : (insOf p m.x).kind = 20 ∨ (insOf p m.x).kind = 21
 ·exact doJ hm hp hpi hq hbs hJ
 by_cases hB : (insOf p m.x).kind = 26
 ·exact doB hm hp hpi hq hB
 by_cases hC : (insOf p m.x).kind = 22 ∨ (insOf p m.x).kind = 23 ∨ (insOf p m.x).kind = 24 ∨ (insOf p m.x).kind = 25
 ·exact doC hm hp hpi hq hC
 by_cases h18 : (insOf p m.x).kind = 18
 ·exact doSt hm hp hpi hq h18
 by_cases h17 : (insOf p m.x).kind = 17
 ·exact doLd hm hp hpi hq h17
 by_cases h30 : (insOf p m.x).kind = 30
 ·exact doSy hm hp hpi hq hst hw hnb h30
 refine doV hm hp hpi hq ?_ hRF
 unfold valK
 omega
end
end Go.Proofs.Ytlfklgganokgdaa

namespace Go.Proofs.Ytlfklgganokgdaa
open Go Go.RowKit
section
variable {RF : Int → Wd64 → Wd64 → Wd64} {p : Prog} {m m' : Mc}
theorem backC_prog (c : Pc) (v : Wd64) : (backC c v).prog = c.prog ∧ (backC c v).heap = c.heap ∧ (backC c v).strict = c.strict ∧ (backC c v).steps = c.steps ∧ (backC c v).ent = c.ent := by
 unfold backC; split <;> exact ⟨rfl, rfl, rfl, rfl, rfl⟩
theorem not_ends {k : Int} (h : ¬ (k = 20 ∨ k = 24 ∨ k = 25 ∨ k = 26)) : endsF k = false := by
 unfold endsF
 simp only [Bool.or_eq_false_iff, decide_eq_false_iff_not]
 omega
theorem jmp_next (hp : ProgOk p) (h : FrIn p m.x) (hk : (insOf p m.x).kind = 20 ∨ (insOf p m.x).kind = 21) : FrIn p (jmpF p m.x (insOf p m.x)) := by
 unfold jmpF
 split
 ·refine h.jump hp ?_
  unfold nextF
  rw [nx1_t hk]
  exact List.mem_append_left _ (List.mem_singleton.2 rfl)
 rename_i hj
 refine h.jump hp ?_
 unfold nextF
 have h20 : ¬ (insOf p m.x).kind = 20 := fun e => hj (.inl e)
 rw [if_neg (by rw [not_ends (by omega)]; decide)]
 refine List.mem_append_right _ (List.mem_singleton.2 ?_)
 have := h.a0
 omega
structure Same (c c' : Pc) : Prop where
 prog : c'.prog = c.prog
 heap : c'.heap = c.heap
 strict : c'.strict = c.strict
 ent : c'.ent = c.ent
 steps : c'.steps = c.steps
theorem Same.refl (c : Pc) : Same c c := ⟨rfl, rfl, rfl, rfl, rfl⟩
theorem stepA_frame {heap : Wd64} {x x' : Fr} {i : Ins} (h : stepA RF heap x i = some x') : (x' = goF (putF x i) ∨ x' = goF (setD x i.d (valueF RF heap x i).1)) := by
 unfold stepA at h
 split at h
 ·cases h
 split at h
 ·cases h; exact .inl rfl
 split at h
 ·cases h; exact .inr rfl
 cases h
theorem step_ok (hp : ProgOk p) (hpf : p.funs.length ≤ 1048576) (hm : MOk p m) (h19 : (insOf p m.x).kind ≠ 19) (h : stepM RF m (insOf p m.x) = some m') : MOk p m' ∧ Same m.c m'.c := by
 have hpr := hm.prog
 have io := hm.top.ins hp
 unfold stepM at h
 split at h
 ·cases h
 split at h
 ·rename_i hk
  cases h
  refine ⟨⟨hpr, ?_, hm.bl, ?_, hm.dep⟩, Same.refl _⟩
  ·show FrIn p (jmpF m.c.prog m.x (insOf p m.x))
   rw [hpr]; exact jmp_next hp hm.top hk
  exact hm.ch.top rfl
 split at h
 ·cases h
  unfold backM
  split
  ·rename_i hb
   have := backC_prog m.c (rA m.x (insOf p m.x).a)
   exact ⟨⟨this.1.trans hpr, hm.top, by rw [hb]; exact fun _ q => (by cases q), by rw [hb]; trivial, by rw [hb]; decide⟩, ⟨this.1, this.2.1, this.2.2.1, this.2.2.2.2, this.2.2.2.1⟩⟩
  rename_i y r hb
  have hy := hm.bl y (by rw [hb]; exact List.mem_cons_self ..)
  refine ⟨⟨hpr, hy.setD _ _, fun z hz => hm.bl z (by rw [hb]; exact List.mem_cons_of_mem _ hz), ?_, ?_⟩, Same.refl _⟩
  ·have hc := hm.ch
   rw [hb] at hc
   exact hc.2.top rfl
  have hd := hm.dep
  rw [hb, List.length_cons] at hd
  show r.length < 1048576
  omega
 split at h
 ·rename_i hk
  have hargs : (hasF (insOf p m.x).kind).args = true := by rcases hk with h | h | h | h <;> rw [h] <;> rfl
  have hcin : ∀ f, calleeF m.c.prog m.x (insOf p m.x) = some f → f < p.funs.length ∧ (((insOf p m.x).args.map (rA m.x)).length : Int) = (p.funs.getD f default).params := by
   intro f hf
   rw [hpr] at hf
   unfold calleeF at hf
   rw [List.length_map]
   split at hf
   ·split at hf
    ·cases hf
    ·rename_i hb
     cases hf
     have hb' : badTo p m.x (insOf p m.x) = false := by simpa using hb
     unfold badTo at hb'
     simp only [Bool.or_eq_false_iff, decide_eq_false_iff_not, Bool.not_eq_false', decide_eq_true_eq] at hb'
     have h1 : toN m.x (insOf p m.x) < wI (p.funs.length : Int) := BitVec.not_le.1 hb'.1.2
     rw [BitVec.lt_def] at h1
     have h2 := wI_nat (p.funs.length : Int)
     rw [wrap_u64] at h2
     exact ⟨by omega, by have := hb'.2; omega⟩
   ·rename_i hb
    cases hf
    have hf' : (hasF (insOf p m.x).kind).f = true := by
     rcases hk with h | h | h | h
     ·rw [h]; rfl
     ·exact absurd (.inl h) hb
     ·rw [h]; rfl
     ·exact absurd (.inr h) hb
    have h1 := io.fn hf'
    have h2 := io.par hargs hf'
    unfold parF at h2
    exact ⟨h1.2, h2⟩
  unfold jumpM at h
  cases hc : calleeF m.c.prog m.x (insOf p m.x) with
  | none => rw [hc] at h; cases h
  | some f =>
   rw [hc] at h
   dsimp only at h
   obtain ⟨h1, h2⟩ := hcin f hc
   have hnew : ∀ d, FrIn p (openFr (m.c.prog.funs.getD f default) f (argsF m.x (insOf p m.x)) d) := fun d => by
    rw [hpr]; exact FrIn.open hp h1 h2 d
   split at h
   ·cases h
    exact ⟨⟨hpr, hnew _, hm.bl, hm.ch.top rfl, hm.dep⟩, Same.refl _⟩
   ·rename_i h24
    split at h
    ·cases h
    ·rename_i hmx
     cases h
     have hk2 : (insOf p m.x).kind = 22 ∨ (insOf p m.x).kind = 23 := by omega
     have hd := io.d (by rcases hk2 with h | h <;> rw [h] <;> rfl)
     have hnr : (m.x.nr : Int) = (fnOf p m.x).regs := by
      have h1 := hm.top.fn hp
      have := h1.par0
      have := h1.par2
      rw [hm.top.nr]; omega
     refine ⟨⟨hpr, hnew _, fun z hz => ?_, ⟨?_, ?_⟩, ?_⟩, Same.refl _⟩
     ·rcases List.mem_cons.1 hz with rfl | hz
      ·exact hm.top.call hp (not_ends (by omega)) _
      ·exact hm.bl z hz
     ·show 0 ≤ (insOf p m.x).d ∧ (insOf p m.x).d < (m.x.nr : Int)
      rw [hnr]; exact hd
     ·exact hm.ch.top rfl
     ·show (m.bl.length + 1) < 1048576
      omega
 split at h
 ·rename_i hk
  split at h
  ·cases h
   exact ⟨⟨hpr, hm.top.go hp (not_ends (by omega)), hm.bl, hm.ch.top rfl, hm.dep⟩, Same.refl _⟩
  cases h
 split at h
 ·rename_i hk
  split at h
  ·cases h
   have hg := hm.top.go hp (not_ends (by omega))
   exact ⟨⟨hpr, ⟨hg.f0, hg.f1, hg.nr, hg.ns, goF_ok (setD_ok hm.top.ok _ _), hg.a0, hg.a1⟩, hm.bl, hm.ch.top rfl, hm.dep⟩, Same.refl _⟩
  cases h
 split at h
 ·rename_i hk
  unfold sysM at h
  split at h
  ·cases h
   exact ⟨⟨hpr, hm.top, hm.bl, hm.ch, hm.dep⟩, ⟨rfl, rfl, rfl, rfl, rfl⟩⟩
  cases hr : sysR m (insOf p m.x) with
  | none => rw [hr] at h; cases h
  | some r =>
   rw [hr] at h
   cases h
   have hg := hm.top.go hp (not_ends (by omega))
   exact ⟨⟨hpr, ⟨hg.f0, hg.f1, hg.nr, hg.ns, goF_ok (setD_ok hm.top.ok _ _), hg.a0, hg.a1⟩, hm.bl, hm.ch.top rfl, hm.dep⟩, Same.refl _⟩
 rename_i k1 k2 k3 k4 k5 k6
 cases hA : stepA RF m.c.heap m.x (insOf p m.x) with
 | none => rw [hA] at h; cases h
 | some x' =>
  rw [hA] at h
  cases h
  have hg := hm.top.go hp (not_ends (by omega))
  rcases stepA_frame hA with rfl | rfl
  ·exact ⟨⟨hpr, ⟨hg.f0, hg.f1, hg.nr, hg.ns, goF_ok (putF_ok hm.top.ok _), hg.a0, hg.a1⟩, hm.bl, hm.ch.top rfl, hm.dep⟩, Same.refl _⟩
  ·exact ⟨⟨hpr, ⟨hg.f0, hg.f1, hg.nr, hg.ns, goF_ok (setD_ok hm.top.ok _ _), hg.a0, hg.a1⟩, hm.bl, hm.ch.top rfl, hm.dep⟩, Same.refl _⟩
/-! ### the world's bounds -/
theorem in_le {a n base size : Wd64} (h : inF a n base size = true) : n.toNat ≤ size.toNat := by
 unfold inF at h
 simp only [Bool.and_eq_true, decide_eq_true_eq] at h
 obtain ⟨⟨h1, h2⟩, h3⟩ := h
 rw [BitVec.le_def] at h1 h2 h3
 rw [BitVec.toNat_sub] at h3
 have := size.isLt
 have := (a - base).isLt
 omega
theorem data_le (hp : ProgOk p) (hd : p.data.length ≤ 1048576) : (psData p).toNat ≤ 268435456 := by
 have h := wI_nat ((p.data.length : Int) + p.zero)
 rw [wrap_u64] at h
 have h1 := hp.zero
 have h2 := hp.data
 unfold psData
 omega
theorem there_le (hp : ProgOk p) (hd : p.data.length ≤ 1048576) {c : Pc} (hc : c.prog = p) (hh : c.heap.toNat ≤ 268435456) {a n : Wd64} (h : badMem c a n = false) : n.toNat ≤ 268435456 := by
 unfold badMem thereC thereF at h
 rw [hc] at h
 simp only [Bool.and_eq_false_iff, decide_eq_false_iff_not, Bool.not_eq_false', Bool.or_eq_true] at h
 rcases h with h | h | h
 ·rw [BitVec.lt_def] at h
  have : (0#64 : Wd64).toNat = 0 := rfl
  omega
 ·have := in_le h
  have := data_le hp hd
  omega
 have := in_le h
 omega
theorem sys_w (hp : ProgOk p) (hd : p.data.length ≤ 1048576) (hc : m.c.prog = p) (hh : m.c.heap.toNat ≤ 268435456) {nb : Nat} (hw : V.RP nb m.w) {i : Ins} {r : SysR} (h : sysR m i = some r) : V.RP (nb + 268435458) r.w := by
 unfold sysR at h
 split at h
 ·cases h
  unfold rdM
  split
  ·exact hw.mono (by omega)
  split
  ·exact hw.mono (by omega)
  exact (hw.read _ _).mono (by omega)
 split at h
 ·cases h
  unfold wrM
  split
  ·exact hw.mono (by omega)
  split
  ·exact hw.mono (by omega)
  rename_i hb
  have := there_le hp hd hc hh (by simpa using hb)
  refine (hw.write _ _).mono ?_
  unfold bytesAt
  rw [List.length_map, List.length_range]
  omega
 split at h
 ·cases h
  unfold opM
  split
  ·exact hw.mono (by omega)
  ·exact hw.mono (by omega)
  exact (hw.of_open _ _).mono (by omega)
 split at h
 ·cases h
  exact (hw.close _).mono (by omega)
 cases h
theorem step_w (hp : ProgOk p) (hd : p.data.length ≤ 1048576) (hc : m.c.prog = p) (hh : m.c.heap.toNat ≤ 268435456) {nb : Nat} (hw : V.RP nb m.w) {i : Ins} (h : stepM RF m i = some m') : V.RP (nb + 268435458) m'.w := by
 unfold stepM at h
 split at h
 ·cases h
 split at h
 ·cases h; exact hw.mono (by omega)
 split at h
 ·cases h
  unfold backM
  split <;> exact hw.mono (by omega)
 split at h
 ·unfold jumpM at h
  split at h
  ·cases h
  split at h
  ·cases h; exact hw.mono (by omega)
  split at h
  ·cases h
  cases h; exact hw.mono (by omega)
 split at h
 ·split at h
  ·cases h; exact hw.mono (by omega)
  cases h
 split at h
 ·split at h
  ·cases h; exact hw.mono (by omega)
  cases h
 split at h
 ·unfold sysM at h
  split at h
  ·cases h; exact hw.mono (by omega)
  cases hr : sysR m i with
  | none => rw [hr] at h; cases h
  | some r =>
   rw [hr] at h
   cases h
   exact sys_w hp hd hc hh hw hr
 cases hA : stepA RF m.c.heap m.x i with
 | none => rw [hA] at h; cases h
 | some x' => rw [hA] at h; cases h; exact hw.mono (by omega)
theorem skip_end {L : List Ins} (hl : (L.getD (L.length - 1) default).kind ≠ 19) : ∀ n a, a < L.length → L.length - a ≤ n → skipL L n a < L.length ∧ (L.getD (skipL L n a) default).kind ≠ 19
 | 0, a, h1, h2 => by omega
 | n + 1, a, h1, h2 => by
  rw [skipL]
  split
  ·rename_i hk
   have : a + 1 < L.length := by
    rcases Nat.lt_or_ge (a + 1) L.length with q | q
    ·exact q
    ·exfalso
     rw [show L.length - 1 = a by omega] at hl
     exact hl hk
   exact skip_end hl n (a + 1) this (by omega)
  ·rename_i hk
   exact ⟨h1, hk⟩
theorem last_not19 {f : Fn} (hf : FnOk p f) : (f.code.getD (f.code.length - 1) default).kind ≠ 19 := by
 intro e
 have h := hf.last
 unfold lastK at h
 rw [e] at h; cases h
theorem adv_in (hp : ProgOk p) {x : Fr} (h : FrIn p x) : FrIn p (advF p x) ∧ (insOf p (advF p x)).kind ≠ 19 := by
 have hs := skip_end (last_not19 (h.fn hp)) _ _ h.a1 (Nat.le_refl _)
 unfold advF
 refine ⟨⟨h.f0, h.f1, h.nr, h.ns, ⟨h.ok.r, h.ok.s, h.ok.t, h.ok.h⟩, Int.natCast_nonneg _, ?_⟩, ?_⟩
 ·show (((skipL _ _ _ : Nat) : Int)).toNat < _
  rw [Int.toNat_natCast]; exact hs.1
 show ((fnOf p x).code.getD (((skipL _ _ _ : Nat) : Int)).toNat default).kind ≠ 19
 rw [Int.toNat_natCast]; exact hs.2
theorem adv_label (hp : ProgOk p) {x : Fr} (h : FrIn p x) (hk : (insOf p x).kind = 19) : advF p (goF x) = advF p x := by
 have h0 := h.a0
 have hlen : (fnOf p x).code.length - x.at_.toNat = ((fnOf p x).code.length - (x.at_ + 1).toNat) + 1 := by
  have := h.more hp (by rw [hk]; rfl)
  omega
 unfold advF
 show ({ (goF x) with at_ := ((skipL (fnOf p x).code ((fnOf p x).code.length - (x.at_ + 1).toNat) (x.at_ + 1).toNat : Nat) : Int) } : Fr) = _
 conv => rhs; rw [hlen, skipL, if_pos (show ((fnOf p x).code.getD x.at_.toNat default).kind = 19 from hk)]
 rw [show (x.at_ + 1).toNat = x.at_.toNat + 1 by omega]
 rfl
theorem adv_not (hp : ProgOk p) {x : Fr} (h : FrIn p x) (hk : (insOf p x).kind ≠ 19) : advF p x = x := by
 have h0 := h.a0
 have h1 := h.a1
 unfold advF
 rw [show (fnOf p x).code.length - x.at_.toNat = ((fnOf p x).code.length - x.at_.toNat - 1) + 1 by omega, skipL, if_neg (show ¬ ((fnOf p x).code.getD x.at_.toNat default).kind = 19 from hk)]
 rw [Int.toNat_of_nonneg h0]
theorem MOk.adv (hp : ProgOk p) (h : MOk p m) : MOk p (advM m) := ⟨h.prog, by show FrIn p (advF m.c.prog m.x); rw [h.prog]; exact (adv_in hp h.top).1, h.bl, h.ch.top rfl, h.dep⟩
theorem MOk.tick (h : MOk p m) : MOk p (tickC m) := ⟨h.prog, h.top, h.bl, h.ch, h.dep⟩
theorem MOk.stuck (h : MOk p m) : MOk p (stuckC m) := ⟨h.prog, h.top, h.bl, h.ch, h.dep⟩
end
end Go.Proofs.Ytlfklgganokgdaa

namespace Go.Proofs.Ytlfklgganokgdaa
open Go Go.RowKit

section
variable {RF : Int → Wd64 → Wd64 → Wd64} {p : Prog} {m m' : Mc}
theorem adv_self (hp : ProgOk p) (hm : MOk p m) (hk : (insOf p m.x).kind ≠ 19) : advM m = m := by
 unfold advM
 rw [hm.prog, adv_not hp hm.top hk]
theorem runM_label (hp : ProgOk p) (hm : MOk p m) (hst : m.c.st = 0) (hk : (insOf p m.x).kind = 19) {n : Nat} (hn : 0 < n) : runM RF n { m with x := goF m.x } = runM RF n m := by
 obtain ⟨k, rfl⟩ : ∃ k, n = k + 1 := ⟨n - 1, by omega⟩
 have e : advM { m with x := goF m.x } = advM m := by
  unfold advM
  dsimp only
  rw [hm.prog, adv_label hp hm.top hk]
 rw [runM, runM, e, if_neg (show ¬ (m.c.st ≠ 0) from fun h => h hst), if_neg (show ¬ (m.c.st ≠ 0) from fun h => h hst)]
theorem runM_step (hp : ProgOk p) (hm : MOk p m) (hst : m.c.st = 0) (hk : (insOf p m.x).kind ≠ 19) {n : Nat} (h : stepM RF m (insOf p m.x) = some m') : runM RF (n + 1) m = runM RF n (tickC m') := by
 rw [runM, if_neg (fun h => h hst), adv_self hp hm hk, hm.prog, h]
theorem runM_stuck (hp : ProgOk p) (hm : MOk p m) (hst : m.c.st = 0) (hk : (insOf p m.x).kind ≠ 19) {n : Nat} (h : stepM RF m (insOf p m.x) = none) : runM RF (n + 1) m = stuckC m := by
 rw [runM, if_neg (fun h => h hst), adv_self hp hm hk, hm.prog, h]
theorem runM_end {f : Int} (h : ¬ (0 < f ∧ m.c.st = 0)) : runM RF f.toNat m = m := by
 cases hf : f.toNat with
 | zero => rfl
 | succ n =>
  rw [runM, if_pos]
  intro e
  exact h ⟨by omega, e⟩
end
theorem idxB {n k j len : Nat} (h : n = len * (k + 1)) (hj : j < len) : j * (k + 1) < n := by
 subst h; exact Nat.mul_lt_mul_of_pos_right hj (Nat.succ_pos k)
theorem toTen0 {A C : St} {x : Ent} : (A ++ (x :: C)).Perm ((A ++ C) ++ [x]) := by
 rw [List.append_assoc]
 exact ((List.perm_append_singleton x C).symm).append_left A
theorem toEnd {A C : St} {x : Ent} : ((A ++ C) ++ [x]).Perm (A ++ (x :: C)) := toTen0.symm
set_option maxHeartbeats 16000000 in
theorem Run15 (RF : Int → Wd64 → Wd64 → Wd64) (hRF : ∀ k a b, 1 ≤ k → k ≤ 8 → ACalls Try.prog 72 [zi k, zw a, zw b] [] (fun t S => t = zw (RF k a b))) (L : Lay) (p : Prog) (hp : ProgOk p) (hpi : ProgIn p) (hbs : L.bs.length = p.funs.length) (m0 : Mc) (q0 : Qp) (f0 : Int) (nb : Nat) (hm0 : MOk p m0) (hq0 : Rel m0 q0) (hh0 : m0.c.heap.toNat ≤ 268435456) (hw0 : V.RP nb m0.w) (hnb : nb + 268435458 * f0.toNat ≤ 549755813888) (hs0 : 0 ≤ m0.c.steps ∧ m0.c.steps ≤ 4611686018427387904) (hf0 : f0 ≤ 4611686018427387903) :
    ACalls Try.prog 15 [.v (.pointer (some ⟨L.s, 0, none⟩)), zi f0] (SP L m0 q0) (fun t S => ∃ q', t = zi (runM RF f0.toNat m0).c.st ∧ Rel (runM RF f0.toNat m0) q' ∧ S = SP L (runM RF f0.toNat m0) q') := by
 refine ACalls.intro Try.func15 rfl Try.ntmps15 nB rfl fun X w0 => ?_
 refine ra ?_
 refine AW.seq ?_
 refine rs (ym ?_)
 refine Y1 (Yv.eqlNilP rfl pn_36 eV) (nl ?_)
 refine AW.cond rfl (fun h0t => ?_) (fun h0f => ?_)
 ·try replace h0t := odt h0t
  cases h0t
 try replace h0f := odf h0f
 refine AW.skip ?_
 refine AW.seq ?_
 refine AW.block ?_
 refine AW.loop3 (fun (m : Mc) (q : Qp) (f : Int) => [(0, true, .v (.pointer (some ⟨L.s, 0, none⟩))), (1, true, zi f)]) (fun (m : Mc) (q : Qp) (f : Int) => (([Ent.box L.s 80 (psC (psL' L m.c) (.v (.slice (some ⟨q.g, 0, none⟩) (q.K.length + 1) q.c))), Ent.row (some ⟨q.g, 0, none⟩) (q.K.length + 1) q.c 87 7 (rowC q.K ++ frC m.x q.a)] ++ frR m.x q.a) ++ (memW L q.l q.ws ++ (rowsE q.K ++ labE L m.c.prog)))) (fun (m : Mc) (q : Qp) (f : Int) => MOk p m ∧ Rel m q ∧ runM RF f.toNat m = runM RF f0.toNat m0 ∧ m.c.heap.toNat ≤ 268435456 ∧ V.RP (nb + 268435458 * (f0.toNat - f.toNat)) m.w ∧ f ≤ f0 ∧ 0 ≤ m.c.steps ∧ m.c.steps ≤ 4611686018427387904 + (f0 - f)) (fun (m : Mc) (q : Qp) (f : Int) => f.toNat * 1048578 + (1048577 - m.x.at_.toNat)) m0 q0 f0 ?_ ?_ ?_ ?_
 ·exact ⟨hm0, hq0, rfl, hh0, by rw [Nat.sub_self]; exact hw0, Int.le_refl _, hs0.1, by omega⟩
 ·exact (su (su sn))
 ·rfl
 intro m q f ⟨hm, hq, hrun, hh, hw, hff, hs1, hs2⟩
 have hpr := hm.prog
 have hfl : m.x.f.toNat < m.c.prog.funs.length := by rw [hpr]; exact hm.top.f1
 have hcl : (m.c.prog.funs.getD m.x.f.toNat default).code = (fnOf p m.x).code := by rw [hpr]; rfl
 have hcn : (m.c.prog.funs.getD m.x.f.toNat default).code.length = (fnOf p m.x).code.length := by rw [hcl]
 have hat0 := hm.top.a0
 have hat1 := hm.top.a1
 have hcb : (fnOf p m.x).code.length ≤ 1048576 := (hpi.fn _ (getD_mem hm.top.f1)).code
 have hflp : m.x.f.toNat < (psL' L m.c).prog.funs.length := hfl
 have hatp : m.x.at_.toNat < ((psL' L m.c).prog.funs.getD m.x.f.toNat default).code.length := by
  show _ < (m.c.prog.funs.getD m.x.f.toNat default).code.length
  rw [hcn]; exact hat1
 have hIq : ((psL' L m.c).prog.funs.getD m.x.f.toNat default).code.getD m.x.at_.toNat default = insOf p m.x := by
  show (m.c.prog.funs.getD m.x.f.toNat default).code.getD m.x.at_.toNat default = _
  rw [hpr]; rfl
 have hrl := rowC_len q.K
 have hKl : q.K.length < 1048576 := by
  have := hm.dep
  rw [← hq.bl, List.length_map] at this
  exact this
 refine AW.seq ?_
 refine rs (ym ?_)
 refine Y1 (Yv.gtr rfl eV eV) ?_
 refine ym ?_
 refine gT (Yv.move rfl eV) ?_
 refine gT (Yv.nilChk rfl (Eg rfl rfl id)) ?_
 refine gT (Yv.fieldBox rfl fo_80_8 (Eg rfl rfl id)) ?_
 refine gT (Yv.loadBox rfl ag_3 (i := 0) rfl (Eg rfl rfl id) rfl) ?_
 refine gT (Yv.eql rfl (Eg rfl rfl id) eV) ?_
 refine Y1 (Yv.pickAnd rfl eV (Eg rfl rfl id)) (nl ?_)
 refine AW.cond rfl (fun h1t => ?_) (fun h1f => ?_)
 ·try replace h1t := odt h1t
  have hgo : 0 < f ∧ m.c.st = 0 := by
   have h : 0 < f ∧ (psL' L m.c).st = 0 := by simpa using h1t
   exact h
  refine AW.skip ?_
  refine AW.block ?_
  refine AW.rseqQ rfl (by kernel_rfl) ?_
  refine qm ?_
  refine Q1 (Yv.nilChk rfl eV) ?_
  refine qf fo_80_6 ?_
  refine ql ag_78 0 ?_
  refine qm ?_
  refine Q1 (Yv.nilChk rfl eV) ?_
  refine qf fo_80_6 ?_
  refine ql ag_78 0 ?_
  refine Q1 (Yv.lenV rfl so_78 eV) ?_
  refine Q1 (Yv.subN_i64 rfl eV eV (fun hg => by omega)) ?_
  refine Q1 (Yv.indexRow (j := q.K.length) rfl ss_78 (i := 1) rfl eV eV (fun hg => ⟨by omega, by omega⟩)) ?_
  refine Q1 (Yv.assign rfl eV) ?_
  refine AWQ.nil ?_
  rw [← rowC_len q.K]
  show AW _ _ _ _ (([Ent.box L.s 80 (psC (psL' L m.c) (.v (.slice (some ⟨q.g, 0, none⟩) (q.K.length + 1) q.c))), Ent.row (some ⟨q.g, 0, none⟩) (q.K.length + 1) q.c 87 7 (rowC q.K ++ frC m.x q.a)] ++ frR m.x q.a) ++ (memW L q.l q.ws ++ (rowsE q.K ++ labE L m.c.prog)))
  refine AW.mid (α := Nat) (fun b6 => [(0, true, .v (.pointer (some ⟨L.s, 0, none⟩))), (1, true, zi f), (5, true, .ep (.slice (some ⟨q.g, 0, none⟩) (q.K.length + 1) q.c) (rowC q.K).length), (6, true, pv b6)]) (fun b6 => ([Ent.box L.s 80 (psC (psL' L m.c) (.v (.slice (some ⟨q.g, 0, none⟩) (q.K.length + 1) q.c))), Ent.row (some ⟨q.g, 0, none⟩) (q.K.length + 1) q.c 87 7 (rowC q.K ++ frC m.x q.a)] ++ frR m.x q.a) ++ (Ent.box b6 58 (insCells (insOf p m.x)) :: (memW L q.l q.ws ++ (rowsE q.K ++ labE L m.c.prog)))) (fun _ => True) ?_ ?_
  ·refine AW.regionH (HeldCs [(q.g, (rowC q.K).length + 0, Value.int .i64 m.x.f), (q.g, (rowC q.K).length + 1, Value.int .i64 m.x.at_)]) rfl (tells_cs (tcR 1 rfl fr0 pinV (tcR 1 rfl fr1 pinV tc0))) ?_
   refine T2 (i := 0) rfl (heldAll (freeMove rfl (E rfl rfl))) ?_
   refine T2 (i := 1) rfl (heldAll (freeNil rfl (E rfl rfl))) ?_
   refine T2 (i := 2) rfl (heldAll (freeField rfl fo_80_0 (E rfl rfl))) ?_
   refine T2 (i := 3) rfl (heldAll (freeField rfl fo_25_0 (E rfl rfl))) ?_
   refine T2 (i := 5) rfl (heldAll (freeMove rfl (E rfl rfl))) ?_
   refine T2 (i := 6) rfl (heldAll (freeNilEp rfl (E rfl rfl))) ?_
   refine T2 (i := 7) rfl (heldAll (freeFieldEp rfl fo_87_0 (E rfl rfl))) ?_
   refine T2 (i := 8) rfl (heldE 0 rfl ag_3 (E rfl rfl) rfl (fun _ _ => .v _)) ?_
   refine T2 (i := 12) rfl (heldAll (freeMove rfl (E rfl rfl))) ?_
   refine T2 (i := 13) rfl (heldAll (freeNilEp rfl (E rfl rfl))) ?_
   refine T2 (i := 14) rfl (heldAll (freeFieldEp rfl fo_87_1 (E rfl rfl))) ?_
   refine T2 (i := 15) rfl (heldE 1 rfl ag_3 (E rfl rfl) rfl (fun _ _ => .v _)) ?_
   refine AWH.two (i := 4) (j := 18) (by kernel_rfl) rfl rfl ?_ ?_
   ·refine yl ag_22 0 ?_
    refine AWL.nil (kpH (tcR 1 rfl fr0 pinV (tcR 1 rfl fr1 pinV tc0)) ?_)
    refine T2 (i := 9) rfl (heldAll (freeIdxSl (j := m.x.f.toNat) rfl ss_22 (B rfl) (E rfl rfl) (E rfl rfl) ⟨(Int.toNat_of_nonneg hm.top.f0).symm, idxB len_funs hflp⟩)) ?_
    refine T2 (i := 10) rfl (heldAll (freeFieldRp rfl fo_51_4 (E rfl rfl))) ?_
    refine AWH.two (i := 11) (j := 18) (by kernel_rfl) rfl rfl ?_ ?_
    ·refine Y1 (Yv.loadRp rfl ag_49 eV (fun hg => fcode_at hflp)) ?_
     refine AWL.nil (kpH (tcR 1 rfl fr0 pinV (tcR 1 rfl fr1 pinV tc0)) ?_)
     refine T2 (i := 16) rfl (heldAll (freeIdxSl (j := m.x.at_.toNat) rfl ss_49 (B rfl) (E rfl rfl) (E rfl rfl) ⟨(Int.toNat_of_nonneg hat0).symm, idxB len_code hatp⟩)) ?_
     refine AWH.two (i := 17) (j := 18) (by kernel_rfl) rfl rfl ?_ ?_
     ·refine Y1 (Yv.loadRpA rfl ag_58 eV (fun hg => ins_cells hatp)) ?_
      refine AWL.nil (kpH (tcR 1 rfl fr0 pinV (tcR 1 rfl fr1 pinV tc0)) ?_)
      refine AWH.one (i := 18) (by kernel_rfl) rfl ?_
      refine AWL.allocOp rfl rfl (B rfl) rfl zc_58 (fun b6 => ?_)
      refine AWL.perm (S' := ([Ent.box L.s 80 (psC (psL' L m.c) (.v (.slice (some ⟨q.g, 0, none⟩) (q.K.length + 1) q.c))), Ent.row (some ⟨q.g, 0, none⟩) (q.K.length + 1) q.c 87 7 (rowC q.K ++ frC m.x q.a)] ++ frR m.x q.a) ++ (Ent.box b6 58 (List.map T.v [.int .i64 0, .int .i64 0, .int .i64 0, .int .i64 0, .int .i64 0, .int .i64 0, .int .i64 0, .int .i64 0, .int .i64 0, .int .i64 0, .slice none 0 0]) :: (memW L q.l q.ws ++ (rowsE q.K ++ labE L m.c.prog)))) toTen0 ?_
      refine AWL.nil (kpH (tcR 1 rfl fr0 pinV (tcR 1 rfl fr1 pinV tc0)) ?_)
      refine AWH.one (i := 19) (by kernel_rfl) rfl ?_
      refine AWL.storeBox (i := 6) rfl rfl rfl ag_58 rfl (E rfl rfl) (E rfl rfl) rfl rfl nB ?_
      refine AWL.nil (kpH (tcR 1 rfl fr0 pinV (tcR 1 rfl fr1 pinV tc0)) ?_)
      refine AWH.done (by kernel_rfl) ?_
      exact ⟨b6, trivial, (su (su (su (su sn)))), by rw [← hIq]; rfl⟩
     refine AWL.allocOp rfl rfl (B rfl) rfl zc_58 (fun b6 => ?_)
     refine AWL.perm (S' := ([Ent.box L.s 80 (psC (psL' L m.c) (.v (.slice (some ⟨q.g, 0, none⟩) (q.K.length + 1) q.c))), Ent.row (some ⟨q.g, 0, none⟩) (q.K.length + 1) q.c 87 7 (rowC q.K ++ frC m.x q.a)] ++ frR m.x q.a) ++ (Ent.box b6 58 (List.map T.v [.int .i64 0, .int .i64 0, .int .i64 0, .int .i64 0, .int .i64 0, .int .i64 0, .int .i64 0, .int .i64 0, .int .i64 0, .int .i64 0, .slice none 0 0]) :: (memW L q.l q.ws ++ (rowsE q.K ++ labE L m.c.prog)))) toTen0 ?_
     refine AWL.nil (kpH (tcR 1 rfl fr0 pinV (tcR 1 rfl fr1 pinV tc0)) ?_)
     refine AWH.one (i := 17) (by kernel_rfl) rfl ?_
     refine Y1 (Yv.loadRpA rfl ag_58 eV (fun hg => ins_cells hatp)) ?_
     refine AWL.nil (kpH (tcR 1 rfl fr0 pinV (tcR 1 rfl fr1 pinV tc0)) ?_)
     refine AWH.one (i := 19) (by kernel_rfl) rfl ?_
     refine AWL.storeBox (i := 6) rfl rfl rfl ag_58 rfl (E rfl rfl) (E rfl rfl) rfl rfl nB ?_
     refine AWL.nil (kpH (tcR 1 rfl fr0 pinV (tcR 1 rfl fr1 pinV tc0)) ?_)
     refine AWH.done (by kernel_rfl) ?_
     exact ⟨b6, trivial, (su (su (su (su sn)))), by rw [← hIq]; rfl⟩
    refine AWL.allocOp rfl rfl (B rfl) rfl zc_58 (fun b6 => ?_)
    refine AWL.perm (S' := ([Ent.box L.s 80 (psC (psL' L m.c) (.v (.slice (some ⟨q.g, 0, none⟩) (q.K.length + 1) q.c))), Ent.row (some ⟨q.g, 0, none⟩) (q.K.length + 1) q.c 87 7 (rowC q.K ++ frC m.x q.a)] ++ frR m.x q.a) ++ (Ent.box b6 58 (List.map T.v [.int .i64 0, .int .i64 0, .int .i64 0, .int .i64 0, .int .i64 0, .int .i64 0, .int .i64 0, .int .i64 0, .int .i64 0, .int .i64 0, .slice none 0 0]) :: (memW L q.l q.ws ++ (rowsE q.K ++ labE L m.c.prog)))) toTen0 ?_
    refine AWL.nil (kpH (tcR 1 rfl fr0 pinV (tcR 1 rfl fr1 pinV tc0)) ?_)
    refine AWH.one (i := 11) (by kernel_rfl) rfl ?_
    refine Y1 (Yv.loadRp rfl ag_49 eV (fun hg => fcode_at hflp)) ?_
    refine AWL.nil (kpH (tcR 1 rfl fr0 pinV (tcR 1 rfl fr1 pinV tc0)) ?_)
    refine AWH.one (i := 16) (by kernel_rfl) rfl ?_
    refine Y1 (Yv.indexSl (j := m.x.at_.toNat) rfl ss_49 (B rfl) eV eV (fun hg => ⟨(Int.toNat_of_nonneg hat0).symm, idxB len_code hatp⟩)) ?_
    refine AWL.nil (kpH (tcR 1 rfl fr0 pinV (tcR 1 rfl fr1 pinV tc0)) ?_)
    refine AWH.one (i := 17) (by kernel_rfl) rfl ?_
    refine Y1 (Yv.loadRpA rfl ag_58 eV (fun hg => ins_cells hatp)) ?_
    refine AWL.nil (kpH (tcR 1 rfl fr0 pinV (tcR 1 rfl fr1 pinV tc0)) ?_)
    refine AWH.one (i := 19) (by kernel_rfl) rfl ?_
    refine AWL.storeBox (i := 6) rfl rfl rfl ag_58 rfl (E rfl rfl) (E rfl rfl) rfl rfl nB ?_
    refine AWL.nil (kpH (tcR 1 rfl fr0 pinV (tcR 1 rfl fr1 pinV tc0)) ?_)
    refine AWH.done (by kernel_rfl) ?_
    exact ⟨b6, trivial, (su (su (su (su sn)))), by rw [← hIq]; rfl⟩
   refine AWL.allocOp rfl rfl (B rfl) rfl zc_58 (fun b6 => ?_)
   refine AWL.perm (S' := ([Ent.box L.s 80 (psC (psL' L m.c) (.v (.slice (some ⟨q.g, 0, none⟩) (q.K.length + 1) q.c))), Ent.row (some ⟨q.g, 0, none⟩) (q.K.length + 1) q.c 87 7 (rowC q.K ++ frC m.x q.a)] ++ frR m.x q.a) ++ (Ent.box b6 58 (List.map T.v [.int .i64 0, .int .i64 0, .int .i64 0, .int .i64 0, .int .i64 0, .int .i64 0, .int .i64 0, .int .i64 0, .int .i64 0, .int .i64 0, .slice none 0 0]) :: (memW L q.l q.ws ++ (rowsE q.K ++ labE L m.c.prog)))) toTen0 ?_
   refine AWL.nil (kpH (tcR 1 rfl fr0 pinV (tcR 1 rfl fr1 pinV tc0)) ?_)
   refine AWH.one (i := 4) (by kernel_rfl) rfl ?_
   refine yl ag_22 0 ?_
   refine AWL.nil (kpH (tcR 1 rfl fr0 pinV (tcR 1 rfl fr1 pinV tc0)) ?_)
   refine AWH.one (i := 9) (by kernel_rfl) rfl ?_
   refine Y1 (Yv.indexSl (j := m.x.f.toNat) rfl ss_22 (B rfl) eV eV (fun hg => ⟨(Int.toNat_of_nonneg hm.top.f0).symm, idxB len_funs hflp⟩)) ?_
   refine AWL.nil (kpH (tcR 1 rfl fr0 pinV (tcR 1 rfl fr1 pinV tc0)) ?_)
   refine AWH.one (i := 10) (by kernel_rfl) rfl ?_
   refine Y1 (Yv.fieldRp rfl fo_51_4 eV) ?_
   refine AWL.nil (kpH (tcR 1 rfl fr0 pinV (tcR 1 rfl fr1 pinV tc0)) ?_)
   refine AWH.one (i := 11) (by kernel_rfl) rfl ?_
   refine Y1 (Yv.loadRp rfl ag_49 eV (fun hg => fcode_at hflp)) ?_
   refine AWL.nil (kpH (tcR 1 rfl fr0 pinV (tcR 1 rfl fr1 pinV tc0)) ?_)
   refine AWH.one (i := 16) (by kernel_rfl) rfl ?_
   refine Y1 (Yv.indexSl (j := m.x.at_.toNat) rfl ss_49 (B rfl) eV eV (fun hg => ⟨(Int.toNat_of_nonneg hat0).symm, idxB len_code hatp⟩)) ?_
   refine AWL.nil (kpH (tcR 1 rfl fr0 pinV (tcR 1 rfl fr1 pinV tc0)) ?_)
   refine AWH.one (i := 17) (by kernel_rfl) rfl ?_
   refine Y1 (Yv.loadRpA rfl ag_58 eV (fun hg => ins_cells hatp)) ?_
   refine AWL.nil (kpH (tcR 1 rfl fr0 pinV (tcR 1 rfl fr1 pinV tc0)) ?_)
   refine AWH.one (i := 19) (by kernel_rfl) rfl ?_
   refine AWL.storeBox (i := 6) rfl rfl rfl ag_58 rfl (E rfl rfl) (E rfl rfl) rfl rfl nB ?_
   refine AWL.nil (kpH (tcR 1 rfl fr0 pinV (tcR 1 rfl fr1 pinV tc0)) ?_)
   refine AWH.done (by kernel_rfl) ?_
   exact ⟨b6, trivial, (su (su (su (su sn)))), by rw [← hIq]; rfl⟩
  rintro b6 hmid
  refine AW.seq ?_
  refine rs (yf fo_58_0 ?_)
  refine yl ag_3 6 ?_
  refine Y1 (Yv.eql rfl eV eV) (nl ?_)
  refine AW.cond rfl (fun h2t => ?_) (fun h2f => ?_)
  ·try replace h2t := odt h2t
   have hk19 : (insOf p m.x).kind = 19 := h2t
   refine rs (ym ?_)
   refine Y1 (Yv.nilChkEp rfl eV) ?_
   refine Y1 (Yv.fieldEp rfl fo_87_1 eV) ?_
   refine Y1 (Yv.loadEp rfl ag_3 (i := 1) rfl eV (fun hg => fr1)) ?_
   refine Y1 (Yv.addN_i64 rfl eV eV (fun hg => by omega)) ?_
   refine Y1 (Yv.nilChkEp rfl eV) ?_
   refine Y1 (Yv.fieldEp rfl fo_87_1 eV) ?_
   refine AWL.storeEp1 (i := 1) rfl rfl rfl ag_3 rfl (E rfl rfl) (E rfl rfl) rfl rfl (by rw [fr_len]; omega) (nl ?_)
   refine AW.dropAt 6 ?_
   refine AW.exit ?_
   have hmore := hm.top.more hp (by rw [hk19]; rfl)
   refine ⟨{ m with x := goF m.x }, q, f, ⟨⟨hm.prog, hm.top.go hp (by rw [hk19]; rfl), hm.bl, hm.ch.top rfl, hm.dep⟩, ⟨hq.bl, hq.ok, hq.mem, hq.w⟩, ?_, hh, hw, hff, hs1, hs2⟩, ?_, (su (su sn)), ?_⟩
   ·rw [← hrun, runM_label hp hm hgo.2 hk19 (by omega)]
   ·show f.toNat * 1048578 + (1048577 - (m.x.at_ + 1).toNat) < _
    omega
   rw [show frR ({ m with x := goF m.x } : Mc).x q.a = frR m.x q.a from rfl, show (rowC q.K ++ frC ({ m with x := goF m.x } : Mc).x q.a) = (rowC q.K ++ frC m.x q.a).set ((rowC q.K).length + 1) (zi (m.x.at_ + 1)) from (fr_jump (pre := rowC q.K) (x := m.x) (a := q.a) _).symm]
   rfl
  try replace h2f := odf h2f
  have hk19 : ¬ (insOf p m.x).kind = 19 := h2f
  refine AW.skip ?_
  refine AW.seq ?_
  refine rs (ym ?_)
  refine ym ?_
  refine Y1 (Yv.loadBoxA rfl ag_58 (i := 6) rfl eV rfl rfl) ?_
  refine AWL.perm (S' := (([Ent.box L.s 80 (psC (psL' L m.c) (.v (.slice (some ⟨q.g, 0, none⟩) (q.K.length + 1) q.c))), Ent.row (some ⟨q.g, 0, none⟩) (q.K.length + 1) q.c 87 7 (rowC q.K ++ frC m.x q.a)] ++ frR m.x q.a) ++ (memW L q.l q.ws ++ (rowsE q.K ++ labE L m.c.prog))) ++ [Ent.box b6 58 (insCells (insOf p m.x))]) toEnd ?_
  refine C1 rfl ce_32 (E rfl rfl) (evsC (E rfl rfl) (evsC (E rfl rfl) (evsC (E rfl rfl) evs0))) (S1 := (([Ent.box L.s 80 (psC (psL' L m.c) (.v (.slice (some ⟨q.g, 0, none⟩) (q.K.length + 1) q.c))), Ent.row (some ⟨q.g, 0, none⟩) (q.K.length + 1) q.c 87 7 (rowC q.K ++ frC m.x q.a)] ++ frR m.x q.a) ++ (memW L q.l q.ws ++ (rowsE q.K ++ labE L m.c.prog)))) (S2 := _) rfl (step32 (L := L) (q := q) (nb := nb + 268435458 * (f0.toNat - f.toNat)) hRF hm hp hpi hbs hq hgo.2 hw (by omega) hk19) ?_
  rintro t60 S60 ⟨m2, q2, rfl, hm2, hq2, rfl⟩
  refine Y1 (Yv.not rfl eV) (nl ?_)
  refine AW.cond rfl (fun h3t => ?_) (fun h3f => ?_)
  ·try replace h3t := odt h3t
   have hnone : stepM RF m (insOf p m.x) = none := by simpa using h3t
   rw [hnone] at hm2
   obtain rfl : m2 = m := hm2
   refine rs (ym ?_)
   refine Y1 (Yv.nilChk rfl eV) ?_
   refine yf fo_80_8 ?_
   refine AWL.storeBox (i := 0) rfl rfl rfl ag_3 rfl (E rfl rfl) (E rfl rfl) rfl rfl nB (nl ?_)
   refine AW.eqS (S' := SP L (stuckC m2) q2 ++ [_]) rfl ?_
   refine AW.drop (List.sublist_append_left _ _) ?_
   refine AW.exit ?_
   refine rs (ym ?_)
   refine Y1 (Yv.nilChk rfl eV) ?_
   refine yf fo_80_8 ?_
   refine yl ag_3 0 ?_
   refine ya ?_
   refine AW.ret (retI (.tmp rfl .nil) ?_)
   refine ⟨q2, ?_⟩
   rw [← hrun, show f.toNat = (f - 1).toNat + 1 by omega, runM_stuck hp hm hgo.2 hk19 hnone]
   exact ⟨rfl, ⟨hq2.bl, hq2.ok, hq2.mem, hq2.w⟩, rfl⟩
  try replace h3f := odf h3f
  have hsome : stepM RF m (insOf p m.x) = some m2 := by
   cases hs : stepM RF m (insOf p m.x) with
   | none => rw [hs] at h3f; cases h3f
   | some y => rw [hs] at hm2; rw [hm2]; rfl
  have hst2 : (psL' L m2.c).steps = m.c.steps := (step_ok hp hpi.funs hm hk19 hsome).2.steps
  refine AW.skip ?_
  refine rs (ym ?_)
  refine Y1 (Yv.nilChk rfl eV) ?_
  refine yf fo_80_11 ?_
  refine yl ag_3 0 ?_
  refine Y1 (Yv.addN_i64 rfl eV eV (fun hg => by omega)) ?_
  refine Y1 (Yv.nilChk rfl eV) ?_
  refine yf fo_80_11 ?_
  refine AWL.storeBox (i := 0) rfl rfl rfl ag_3 rfl (E rfl rfl) (E rfl rfl) rfl rfl nB (nl ?_)
  refine AW.eqS (S' := SP L (tickC m2) q2 ++ [_]) rfl ?_
  refine AW.drop (List.sublist_append_left _ _) ?_
  refine AW.region ?_
  refine ym ?_
  refine Y1 (Yv.subN_i64 rfl eV eV (fun hg => by omega)) ?_
  refine ya ?_
  obtain ⟨h1, h2⟩ := step_ok hp hpi.funs hm hk19 hsome
  have hw2 := step_w hp hpi.data hpr hh hw hsome
  refine ⟨tickC m2, q2, f - 1, ⟨h1.tick, ⟨hq2.bl, hq2.ok, hq2.mem, hq2.w⟩, ?_, by show m2.c.heap.toNat ≤ _; rw [h2.heap]; exact hh, hw2.mono (by omega), by omega, by show 0 ≤ m2.c.steps + 1; rw [h2.steps]; omega, by show m2.c.steps + 1 ≤ _; rw [h2.steps]; omega⟩, ?_, (su (su sn)), ?_⟩
  ·rw [← hrun, show f.toNat = (f - 1).toNat + 1 by omega, runM_step hp hm hgo.2 hk19 hsome]
  ·omega
  rfl
 try replace h1f := odf h1f
 have hgo : ¬ (0 < f ∧ m.c.st = 0) := by
  have h : ¬ (0 < f ∧ (psL' L m.c).st = 0) := by simpa using h1f
  exact h
 refine AW.exit ?_
 refine rs (ym ?_)
 refine Y1 (Yv.nilChk rfl eV) ?_
 refine yf fo_80_8 ?_
 refine yl ag_3 0 ?_
 refine ya ?_
 refine AW.ret (retI (.tmp rfl .nil) ?_)
 refine ⟨q, ?_⟩
 rw [← hrun, runM_end hgo]
 exact ⟨rfl, hq, rfl⟩

end Go.Proofs.Ytlfklgganokgdaa

namespace Go.Proofs.Ytlfklgganokgdaa
open Go Go.RowKit
def zf (n : Nat) : T := .v (.float .f64 n)
def FOut (o : Option Nat) (r : Nat) : Prop :=
 match o with
 | some v => r = v ∧ r < 18446744073709551616
 | none => r < 18446744073709551616 ∧ Ieee.double.order r r = none
theorem nan_order (t : Nat) : (t % 2) * 2 ^ 63 + 0x7ff0000000000000 + 1 + (t / 2) % (2 ^ 52 - 1) < 18446744073709551616 ∧ Ieee.double.order ((t % 2) * 2 ^ 63 + 0x7ff0000000000000 + 1 + (t / 2) % (2 ^ 52 - 1)) ((t % 2) * 2 ^ 63 + 0x7ff0000000000000 + 1 + (t / 2) % (2 ^ 52 - 1)) = none := by
 have h1 : t / 2 % 4503599627370495 < 4503599627370495 := Nat.mod_lt _ (by decide)
 have h2 : t % 2 < 2 := Nat.mod_lt _ (by decide)
 have e1 : (2 : Nat) ^ 52 - 1 = 4503599627370495 := by decide
 have e2 : (2 : Nat) ^ 63 = 9223372036854775808 := by decide
 rw [e1, e2]
 generalize ht : t / 2 % 4503599627370495 = q at *
 generalize hb : t % 2 = b at *
 refine ⟨by omega, ?_⟩
 unfold Ieee.Format.order
 have hr : ∃ n f, Ieee.double.read (b * 9223372036854775808 + 9218868437227405312 + 1 + q) = .nan n f := by
  unfold Ieee.Format.read
  have s1 : Ieee.double.signWeight = 9223372036854775808 := by decide
  have s2 : Ieee.double.binade = 4503599627370496 := by decide
  have s3 : Ieee.double.infRung = 9218868437227405312 := by decide
  simp only [s1, s2, s3]
  have e : (b * 9223372036854775808 + 9218868437227405312 + 1 + q) % 9223372036854775808 = 9218868437227405312 + 1 + q := by omega
  rw [e, if_neg (by omega), if_neg (by omega), if_neg (by omega)]
  exact ⟨_, _, rfl⟩
 obtain ⟨n, f, hr⟩ := hr
 rw [hr]
 rfl
theorem write64 (d : Ieee.Datum) : Ieee.double.write d < 18446744073709551616 := Ieee.double.write_lt d
theorem map_write {o : Option Ieee.Datum} {v : Nat} (h : o.map Ieee.double.write = some v) : v < 18446744073709551616 := by
 cases o with
 | none => cases h
 | some d => cases h; exact write64 d
def fopF (op : BinOp) (x y : Nat) : Option Nat :=
 match op with
 | .add => Ieee.double.add x y
 | .sub => Ieee.double.sub x y
 | .mul => Ieee.double.mul x y
 | .quo => Ieee.double.div x y
 | _ => none
theorem fop_lt {op : BinOp} {x y v : Nat} (h : fopF op x y = some v) : v < 18446744073709551616 := by
 cases op <;> first | exact map_write h | cases h
section
variable {cx : Cx} {env : Env} {S : St} {o : Oper} {g : Bool} {x y z : Operand} {ops : Array Oper} {l : List Oper} {K : Env → St → Prop} {d : Nat}
theorem exec_binOp_float {ρ : Operand → Value} {P : Program} {op : BinOp} {ty yt : TypeId} {p q : Nat} (ho : o.op = .binOp op ty x y yt) (hx : ρ x = .float .f64 p) (hy : ρ y = .float .f64 q) (w : World) :
    (execOp ρ o).run P w = ((binOp op ty (.float .f64 p) (.float .f64 q)).run P w).andThen fun v w => .ok (.value v) w := by
 have h : eqGuard op ty x y (.float .f64 p) (.float .f64 q) = pure () := by
  unfold eqGuard
  split <;> rfl
 simp only [execOp, ho, hx, hy, h, Sem.run_bind, Sem.run_pure, pure_bind]
theorem floatArith_none {op : BinOp} {p q : Nat} (hop : op = .add ∨ op = .sub ∨ op = .mul ∨ op = .quo) (hf : fopF op p q = none) : Op.floatArith op .f64 p q = (choose (.nanBits .f64 p q)).bind fun b => .pure (.float .f64 b) := by
 rcases hop with rfl | rfl | rfl | rfl
 ·have h : Ieee.double.add p q = none := hf
  unfold Op.floatArith
  show (match (FloatKind.f64.format.add p q) with | some r => _ | none => _) = _
  rw [show FloatKind.f64.format.add p q = none from h]; rfl
 ·have h : Ieee.double.sub p q = none := hf
  unfold Op.floatArith
  show (match (FloatKind.f64.format.sub p q) with | some r => _ | none => _) = _
  rw [show FloatKind.f64.format.sub p q = none from h]; rfl
 ·have h : Ieee.double.mul p q = none := hf
  unfold Op.floatArith
  show (match (FloatKind.f64.format.mul p q) with | some r => _ | none => _) = _
  rw [show FloatKind.f64.format.mul p q = none from h]; rfl
 have h : Ieee.double.div p q = none := hf
 unfold Op.floatArith
 show (match (FloatKind.f64.format.div p q) with | some r => _ | none => _) = _
 rw [show FloatKind.f64.format.div p q = none from h]; rfl
theorem AWL.fArith {op : BinOp} {ty yt : TypeId} {p q : Nat} (hop : op = .add ∨ op = .sub ∨ op = .mul ∨ op = .quo) (hg : o.guard = none) (hd : o.dst = some d) (hN : d < cx.N) (ho : o.op = .binOp op ty x y yt) (hx : Ev env true x (zf p)) (hy : Ev env true y (zf q))
    (hr : ∀ r, FOut (fopF op p q) r → AWL cx ops l K ((d, true, zf r) :: env) S) : AWL cx ops (o :: l) K env S := by
 refine AWL.eff hg hd hN fun a w hs => ?_
 have hb : (binOp op ty (.float .f64 p) (.float .f64 q)) = Op.floatArith op .f64 p q := by
  rcases hop with rfl | rfl | rfl | rfl <;> rfl
 have hrun := exec_binOp_float (P := cx.P) ho (hx.val hs rfl) (hy.val hs rfl) w
 cases hf : fopF op p q with
 | some v =>
  refine ⟨.float .f64 v, w, zf v, S, ?_, hs, .v _, hr v (by rw [hf]; exact ⟨rfl, fop_lt hf⟩)⟩
  rw [hrun, run_float_arith w op ty .f64 p q v (by rcases hop with rfl | rfl | rfl | rfl <;> exact hf)]
  rfl
 | none =>
  have hk : Keeps [] w w.drew := Keeps.drew [] w
  refine ⟨.float .f64 ((Question.nanBits .f64 p q).cut (w.tape w.drawn (.nanBits .f64 p q))), w.drew, zf _, S, ?_, hs.more hk, .v _, hr _ (by rw [hf]; exact nan_order _)⟩
  rw [hrun, hb, floatArith_none hop hf]
  rfl
theorem Yv.fEql {ty yt : TypeId} {p q : Nat} (ho : o.op = .binOp .eql ty x y yt) (hx : Ev env g x (zf p)) (hy : Ev env g y (zf q)) : Yv cx o env S g (.v (.bool (Ieee.double.order p q == some .eq))) :=
 Yv.plain fun a w hs hg w' => by rw [exec_binOp_float ho (hx.val hs hg) (hy.val hs hg)]; simp [binOp_float_cmp_eql, Sem.run_pure]; rfl
theorem Yv.fNeq {ty yt : TypeId} {p q : Nat} (ho : o.op = .binOp .neq ty x y yt) (hx : Ev env g x (zf p)) (hy : Ev env g y (zf q)) : Yv cx o env S g (.v (.bool (Ieee.double.order p q != some .eq))) :=
 Yv.plain fun a w hs hg w' => by rw [exec_binOp_float ho (hx.val hs hg) (hy.val hs hg)]; simp [binOp_float_cmp_neq, Sem.run_pure]; rfl
theorem Yv.fLss {ty yt : TypeId} {p q : Nat} (ho : o.op = .binOp .lss ty x y yt) (hx : Ev env g x (zf p)) (hy : Ev env g y (zf q)) : Yv cx o env S g (.v (.bool (Ieee.double.order p q == some .lt))) :=
 Yv.plain fun a w hs hg w' => by rw [exec_binOp_float ho (hx.val hs hg) (hy.val hs hg)]; simp [binOp_float_cmp_lss, Sem.run_pure]; rfl
theorem Yv.fLeq {ty yt : TypeId} {p q : Nat} (ho : o.op = .binOp .leq ty x y yt) (hx : Ev env g x (zf p)) (hy : Ev env g y (zf q)) : Yv cx o env S g (.v (.bool (Ieee.double.order p q == some .lt || Ieee.double.order p q == some .eq))) :=
 Yv.plain fun a w hs hg w' => by rw [exec_binOp_float ho (hx.val hs hg) (hy.val hs hg)]; simp [binOp_float_cmp_leq, Sem.run_pure]; rfl
theorem Yv.convIF {src dst : TypeId} {k : IntKind} {p : Int} (ho : o.op = .convert src dst x) (hs' : (cx.P.underlying src).isSome = true) (hd' : cx.P.underlying dst = some (.float .f64)) (hx : Ev env g x (.v (.int k p))) : Yv cx o env S g (zf (floatOfInt .f64 p)) :=
 Yv.plain fun a w hs hg w' => by
  simp only [execOp, ho, hx.val hs hg, Sem.run_bind, run_convert_int_float w' src dst k .f64 p hs' hd', Result.andThen_ok, Sem.run_pure]
theorem Yv.fromBits {f : FuncId} {fn : Func} {xf : Operand} {ats : Array TypeId} {a : Wd64} (hf : cx.P.funcs[f]? = some fn) (hn : (fn.name == "runtime.NumGoroutine") = false) (hb : fn.body.isNone = true) (h1 : Extern.findNext fn = none) (h2 : Extern.find fn = some Extern.MathFloatBits.float64frombits)
    (ho : o.op = .call { callee := .value xf, args := #[x], argTypes := ats }) (hxf : Ev env g xf (.v (.func (.func f) #[] #[]))) (hx : Ev env g x (zw a)) : Yv cx o env S g (zf a.toNat) := by
 refine Yv.extern ho hxf fun ac w hs hg w' => ?_
 have e := hx.val hs hg
 rw [run_callFunc_extern hf hn hb h1 h2]
 have : (#[] ++ #[x].map ac.eval ++ #[] : Array Value) = #[.int .u64 (a.toNat : Int)] := by simp [e]
 rw [this]
 rw [show Extern.MathFloatBits.float64frombits #[.int .u64 (a.toNat : Int)] = pure (.float .f64 a.toNat) from rfl]
 rfl
theorem Yv.toBits {f : FuncId} {fn : Func} {xf : Operand} {ats : Array TypeId} {r : Nat} (hf : cx.P.funcs[f]? = some fn) (hn : (fn.name == "runtime.NumGoroutine") = false) (hb : fn.body.isNone = true) (h1 : Extern.findNext fn = none) (h2 : Extern.find fn = some Extern.MathFloatBits.float64bits)
    (ho : o.op = .call { callee := .value xf, args := #[x], argTypes := ats }) (hxf : Ev env g xf (.v (.func (.func f) #[] #[]))) (hx : Ev env g x (zf r)) (hr : r < 18446744073709551616) : Yv cx o env S g (zw (BitVec.ofNat 64 r)) := by
 have e0 : zw (BitVec.ofNat 64 r) = .v (.int .u64 (r : Int)) := by
  unfold zw
  rw [BitVec.toNat_ofNat, Nat.mod_eq_of_lt hr]
 rw [e0]
 refine Yv.extern ho hxf fun ac w hs hg w' => ?_
 have e := hx.val hs hg
 rw [run_callFunc_extern hf hn hb h1 h2]
 have : (#[] ++ #[x].map ac.eval ++ #[] : Array Value) = #[.float .f64 r] := by simp [e]
 rw [this]
 rw [show Extern.MathFloatBits.float64bits #[.float .f64 r] = pure (.int .u64 r) from rfl]
 rfl
end
def frF (o : Option Nat) : Wd64 :=
 match o with
 | some r => if (Ieee.double.order r r != some .eq) = true then 9221120237041090560#64 else BitVec.ofNat 64 r
 | none => 9221120237041090560#64
theorem fr_nan {o : Option Nat} {r : Nat} (h : FOut o r) (hn : (Ieee.double.order r r != some .eq) = true) : frF o = 9221120237041090560#64 := by
 cases o with
 | none => rfl
 | some v =>
  obtain ⟨rfl, _⟩ := h
  rw [frF, if_pos hn]
theorem fr_num {o : Option Nat} {r : Nat} (h : FOut o r) (hn : (Ieee.double.order r r != some .eq) = false) : frF o = BitVec.ofNat 64 r := by
 cases o with
 | none =>
  rw [h.2] at hn
  cases hn
 | some v =>
  obtain ⟨rfl, _⟩ := h
  rw [frF, if_neg (by rw [hn]; decide)]
theorem FOut.lt {o : Option Nat} {r : Nat} (h : FOut o r) : r < 18446744073709551616 := by
 cases o with
 | none => exact h.1
 | some v => exact h.2
end Go.Proofs.Ytlfklgganokgdaa

namespace Go.Proofs.Ytlfklgganokgdaa
open Go Go.RowKit

theorem ofInt_lt (z : Int) : floatOfInt .f64 z < 18446744073709551616 := write64 (.number (z < 0) z.natAbs 0)
def outF (k : Int) (a b : Wd64) : Option Nat :=
 if k = 1 then fopF .add a.toNat b.toNat else if k = 2 then fopF .sub a.toNat b.toNat else if k = 3 then fopF .mul a.toNat b.toNat else if k = 4 then fopF .quo a.toNat b.toNat else some (floatOfInt .f64 (sI a))
def realF (k : Int) (a b : Wd64) : Wd64 :=
 if k = 5 then truthF (Ieee.double.order a.toNat b.toNat == some .lt)
 else if k = 6 then truthF (Ieee.double.order a.toNat b.toNat == some .lt || Ieee.double.order a.toNat b.toNat == some .eq)
 else if k = 7 then truthF (Ieee.double.order a.toNat b.toNat == some .eq)
 else frF (outF k a b)
set_option maxHeartbeats 4000000 in
theorem real72 (k : Int) (a b : Wd64) (h0 : 1 ≤ k) (h1 : k ≤ 8) :
    ACalls Try.prog 72 [zi k, zw a, zw b] [] (fun t S => t = zw (realF k a b)) := by
 refine ACalls.intro Try.func72 rfl Try.ntmps72 nB rfl fun X w0 => ?_
 refine ra ?_
 refine rs (ym ?_)
 refine Y1 (Yv.fromBits Try.func79 (by kernel_rfl) (by kernel_rfl) (by kernel_rfl) (by kernel_rfl) rfl eV eV) ?_
 refine ym ?_
 refine Y1 (Yv.fromBits Try.func79 (by kernel_rfl) (by kernel_rfl) (by kernel_rfl) (by kernel_rfl) rfl eV eV) ?_
 refine Y1 (Yv.assign rfl eV) ?_
 refine ya ?_
 refine ra ?_
 refine AW.mid (α := Nat) (fun r => [(9, true, zf r)]) (fun _ => []) (fun r => FOut (outF k a b) r ∧ ¬ (k = 5 ∨ k = 6 ∨ k = 7)) ?_ ?_
 ·refine rs (ym (nl ?_))
  refine AW.block ?_
  refine rs (Y1 (Yv.eql rfl eV eV) ?_)
  refine ya ?_
  refine AW.cond rfl (fun h0t => ?_) (fun h0f => ?_)
  ·try replace h0t := odt h0t
   refine AW.region ?_
   refine ym ?_
   refine ym ?_
   refine AWL.fArith (by simp) rfl rfl (B rfl) rfl (E rfl rfl) (E rfl rfl) (fun r19 hr19 => ?_)
   refine ya ?_
   exact ⟨r19, ⟨by rw [outF, if_pos (by omega)]; assumption, by omega⟩, (su sn), rfl⟩
  try replace h0f := odf h0f
  refine rs (Y1 (Yv.eql rfl eV eV) ?_)
  refine ya ?_
  refine AW.cond rfl (fun h1t => ?_) (fun h1f => ?_)
  ·try replace h1t := odt h1t
   refine AW.region ?_
   refine ym ?_
   refine ym ?_
   refine AWL.fArith (by simp) rfl rfl (B rfl) rfl (E rfl rfl) (E rfl rfl) (fun r24 hr24 => ?_)
   refine ya ?_
   exact ⟨r24, ⟨by rw [outF, if_neg (by omega), if_pos (by omega)]; assumption, by omega⟩, (su sn), rfl⟩
  try replace h1f := odf h1f
  refine rs (Y1 (Yv.eql rfl eV eV) ?_)
  refine ya ?_
  refine AW.cond rfl (fun h2t => ?_) (fun h2f => ?_)
  ·try replace h2t := odt h2t
   refine AW.region ?_
   refine ym ?_
   refine ym ?_
   refine AWL.fArith (by simp) rfl rfl (B rfl) rfl (E rfl rfl) (E rfl rfl) (fun r29 hr29 => ?_)
   refine ya ?_
   exact ⟨r29, ⟨by rw [outF, if_neg (by omega), if_neg (by omega), if_pos (by omega)]; assumption, by omega⟩, (su sn), rfl⟩
  try replace h2f := odf h2f
  refine rs (Y1 (Yv.eql rfl eV eV) ?_)
  refine ya ?_
  refine AW.cond rfl (fun h3t => ?_) (fun h3f => ?_)
  ·try replace h3t := odt h3t
   refine AW.region ?_
   refine ym ?_
   refine ym ?_
   refine AWL.fArith (by simp) rfl rfl (B rfl) rfl (E rfl rfl) (E rfl rfl) (fun r34 hr34 => ?_)
   refine ya ?_
   exact ⟨r34, ⟨by rw [outF, if_neg (by omega), if_neg (by omega), if_neg (by omega), if_pos (by omega)]; assumption, by omega⟩, (su sn), rfl⟩
  try replace h3f := odf h3f
  refine rs (Y1 (Yv.eql rfl eV eV) ?_)
  refine ya ?_
  refine AW.cond rfl (fun h4t => ?_) (fun h4f => ?_)
  ·try replace h4t := odt h4t
   refine rs (ym ?_)
   refine ym ?_
   refine Y1 (Yv.fLss rfl eV eV) ?_
   refine AWL.callT rfl rfl (B rfl) rfl ce_71 (E rfl rfl) (evsC (E rfl rfl) evs0) (truth71 (Ieee.double.order a.toNat b.toNat == some .lt)) ?_
   rintro t40 S40 rfl
   refine ya ?_
   refine AW.ret (retI (.tmp rfl .nil) ?_)
   rw [realF, if_pos (by omega)]
   rfl
  try replace h4f := odf h4f
  refine rs (Y1 (Yv.eql rfl eV eV) ?_)
  refine ya ?_
  refine AW.cond rfl (fun h5t => ?_) (fun h5f => ?_)
  ·try replace h5t := odt h5t
   refine rs (ym ?_)
   refine ym ?_
   refine Y1 (Yv.fLeq rfl eV eV) ?_
   refine AWL.callT rfl rfl (B rfl) rfl ce_71 (E rfl rfl) (evsC (E rfl rfl) evs0) (truth71 ((Ieee.double.order a.toNat b.toNat == some .lt || Ieee.double.order a.toNat b.toNat == some .eq))) ?_
   rintro t46 S46 rfl
   refine ya ?_
   refine AW.ret (retI (.tmp rfl .nil) ?_)
   rw [realF, if_neg (by omega), if_pos (by omega)]
   rfl
  try replace h5f := odf h5f
  refine rs (Y1 (Yv.eql rfl eV eV) ?_)
  refine ya ?_
  refine AW.cond rfl (fun h6t => ?_) (fun h6f => ?_)
  ·try replace h6t := odt h6t
   refine rs (ym ?_)
   refine ym ?_
   refine Y1 (Yv.fEql rfl eV eV) ?_
   refine AWL.callT rfl rfl (B rfl) rfl ce_71 (E rfl rfl) (evsC (E rfl rfl) evs0) (truth71 (Ieee.double.order a.toNat b.toNat == some .eq)) ?_
   rintro t52 S52 rfl
   refine ya ?_
   refine AW.ret (retI (.tmp rfl .nil) ?_)
   rw [realF, if_neg (by omega), if_neg (by omega), if_pos (by omega)]
   rfl
  try replace h6f := odf h6f
  refine rs (Y1 (Yv.eql rfl eV eV) ?_)
  refine ya ?_
  refine AW.cond rfl (fun h7t => ?_) (fun h7f => ?_)
  ·try replace h7t := odt h7t
   refine AW.region ?_
   refine ym ?_
   refine Y1 (Yv.conv rfl Try.underlying39 kd_2 eV) ?_
   refine Y1 (Yv.convIF rfl (by kernel_rfl) Try.underlying145 eV) ?_
   refine ya ?_
   exact ⟨_, ⟨by rw [outF, if_neg (by omega), if_neg (by omega), if_neg (by omega), if_neg (by omega)]; exact ⟨rfl, ofInt_lt _⟩, by omega⟩, (su sn), rfl⟩
  try replace h7f := odf h7f
  exfalso; omega
 rintro r ⟨hr, hk567⟩
 refine AW.seq ?_
 refine rs (ym ?_)
 refine ym ?_
 refine Y1 (Yv.fNeq rfl eV eV) (nl ?_)
 refine AW.cond rfl (fun h8t => ?_) (fun h8f => ?_)
 ·try replace h8t := odt h8t
  refine ra ?_
  refine AW.ret (retI (.tmp rfl .nil) ?_)
  rw [realF, if_neg (by omega), if_neg (by omega), if_neg (by omega), fr_nan hr h8t]
  rfl
 try replace h8f := odf h8f
 refine AW.skip ?_
 refine rs (ym ?_)
 refine Y1 (Yv.toBits Try.func80 (by kernel_rfl) (by kernel_rfl) (by kernel_rfl) (by kernel_rfl) rfl eV eV (FOut.lt (by assumption))) ?_
 refine ya ?_
 refine AW.ret (retI (.tmp rfl .nil) ?_)
 rw [realF, if_neg (by omega), if_neg (by omega), if_neg (by omega), fr_num hr h8f]
 rfl

end Go.Proofs.Ytlfklgganokgdaa

namespace Go.Proofs.Ytlfklgganokgdaa
open Go Go.RowKit

theorem pmD {α : Type} {a0 a1 a2 a3 : α} {Z : List α} : (a0 :: a2 :: a1 :: a3 :: Z).Perm (a0 :: a1 :: a2 :: a3 :: Z) :=
 (((((((((List.Perm.refl _).cons a3)).cons a1)).cons a2)).trans (List.perm_middle (a := a2) (l₁ := [a1]) (l₂ := a3 :: Z)).symm).cons a0)
theorem pmE {X r : Ent} {E W : St} : (X :: r :: (E ++ W)).Perm (((X :: E) ++ W) ++ [r]) := by
 show (X :: (r :: (E ++ W))).Perm (X :: ((E ++ W) ++ [r]))
 exact ((List.perm_append_singleton r (E ++ W)).symm).cons X
theorem pmF {P E M : St} {B R : Ent} : ([R] ++ (P ++ (E ++ (B :: M)))).Perm (P ++ (E ++ (B :: R :: M))) := by
 show (R :: (P ++ (E ++ (B :: M)))).Perm (P ++ (E ++ (B :: R :: M)))
 refine List.Perm.trans (List.perm_middle (a := R) (l₁ := P) (l₂ := E ++ (B :: M))).symm ?_
 refine List.Perm.append_left P ?_
 refine List.Perm.trans (List.perm_middle (a := R) (l₁ := E) (l₂ := B :: M)).symm ?_
 exact (List.Perm.swap B R M).append_left E
theorem pmG {P E M : St} {B R : Ent} : (B :: (P ++ (E ++ (R :: M)))).Perm ([R] ++ (P ++ (E ++ (B :: M)))) :=
 (pmF (R := B) (B := R)).trans ((((List.Perm.swap B R M).append_left E).append_left P).trans (pmF (R := R) (B := B)).symm)
theorem data_at {l : List UInt8} {j : Nat} (h : j < l.length) : (l.map u8)[j * 1 + 0]? = some (u8 (l.getD j 0)) := by
 rw [Nat.mul_one, Nat.add_zero, List.getElem?_map, List.getElem?_eq_getElem h]
 simp [h]
/-! ### a new process -/
def initM (p : Prog) : Mf := putsN (fun _ => 0) 268435456#64 p.data p.data.length
def newC (p : Prog) (heap : Wd64) (strict : Bool) : Pc := ⟨p, heap, strict, false, 0, 0#64, 0, 0⟩
def newX (p : Prog) : Fr := openFr (p.funs.getD 0 default) 0 [] 0
def newM (p : Prog) (heap : Wd64) (strict : Bool) (w : V.PW) : Mc := ⟨newC p heap strict, newX p, [], initM p, w⟩
def SPn (L : Lay) (c : Pc) (x : Fr) (g cc : Nat) (a : FA) (l : List Pg) : St := p6 L c x g cc a [] ++ (memE 114 L.pg l ++ labE L c.prog)
theorem newM_ok {p : Prog} (hok : ProgOk p) (heap : Wd64) (strict : Bool) (w : V.PW) : MOk p (newM p heap strict w) := by
 refine ⟨rfl, ?_, fun y hy => (by cases hy), trivial, by show 0 < 1048576; decide⟩
 exact FrIn.open hok (f := 0) hok.some (by rw [hok.first]; rfl) 0
set_option maxHeartbeats 16000000 in
theorem New13 (p : Prog) (heap : Wd64) (strict : Bool) (wb : Nat) (hp : ProgIn p) (hok : ProgOk p) (hc : checkW p = 0) (hh : ¬ heap < 65536#64) (hh2 : ¬ 1099511627776#64 < heap) :
    ACalls Try.prog 13 [.agg (progCells p), zw heap, bv strict, .v (.pointer (some ⟨wb, 0, none⟩))] [] (fun t S => ∃ b41 b39 gl c bs g c2 a l, t = .tup [.v (.pointer (some ⟨b41, 0, none⟩)), zi 0] ∧ bs.length = p.funs.length ∧ PgOk l ∧ getM l = initM p ∧ S = SPn ⟨b41, gl, c, b39, wb, 0, bs⟩ (newC p heap strict) (newX p) g c2 a l) := by
 have hpf := hp.funs
 have hdl := hp.data
 have hf1 := fn_regs hok hok.some
 have hf0 := hok.some
 refine ACalls.intro Try.func13 rfl Try.ntmps13 nB rfl fun X w0 => ?_
 refine rs ?_
 refine AWL.boxOp rfl rfl (B rfl) rfl (E rfl rfl) rfl (fun b4 => ?_)
 refine Y1 (Yv.assign rfl eV) ?_
 refine ya ?_
 refine AW.seq ?_
 refine rs (Y1 (Yv.loadBoxA rfl ag_25 (i := 0) rfl eV rfl rfl) ?_)
 refine AWL.callP rfl rfl (B rfl) rfl ce_6 (E rfl rfl) (evsC (E rfl rfl) evs0) (Check6 p hp) (fun t S h => h) ?_
 refine ya ?_
 refine rs (ym ?_)
 refine Y1 (Yv.neq rfl eV eV) (nl ?_)
 refine AW.cond rfl (fun h0t => ?_) (fun h0f => ?_)
 ·try replace h0t := odt h0t
  exact absurd hc (by simpa using h0t)
 try replace h0f := odf h0f
 refine AW.skip ?_
 refine AW.seq ?_
 refine rs (ym ?_)
 refine Y1 (Yv.lssW (b := 65536#64) rfl eV eV) ?_
 refine ym ?_
 refine gF (Yv.move rfl eV) ?_
 refine gF (Yv.gtrW (b := 1099511627776#64) rfl (Eg rfl rfl id) eV) ?_
 refine Y1 (Yv.pickOr (t := .const (.bool true)) rfl eV (Eg rfl rfl id)) ?_
 refine ym ?_
 refine gF (Yv.move rfl eV) ?_
 refine gF (Yv.eqlNilP rfl pn_34 (Eg rfl rfl id)) ?_
 refine Y1 (Yv.pickOr (t := .const (.bool true)) rfl eV (Eg rfl rfl id)) (nl ?_)
 refine AW.cond rfl (fun h1t => ?_) (fun h1f => ?_)
 ·try replace h1t := odt h1t
  exfalso; simp [hh, hh2] at h1t
 try replace h1f := odf h1f
 refine AW.skip ?_
 refine rs (Y1 (Yv.loadBoxA rfl ag_25 (i := 0) rfl eV rfl rfl) ?_)
 refine AWL.callT rfl rfl (B rfl) rfl ce_29 (E rfl rfl) (evsC (E rfl rfl) evs0) (kept29 p hp) ?_
 rintro t35 S35 rfl
 refine ym ?_
 refine ym ?_
 refine ym ?_
 refine AWL.makeMapOp rfl rfl (B rfl) rfl (fun b39 => ?_)
 refine Y1 (Yv.buildS rfl sh_80 (evpC eV (evpC eV (evpC eV (evpC eV (evpC eV evp0))))) (fun _ => rfl)) ?_
 refine AWL.boxOp rfl rfl (B rfl) rfl (E rfl rfl) rfl (fun b41 => ?_)
 refine ya ?_
 refine AW.rowNil 53 1 ?_
 refine AW.perm (S' := [Ent.box b41 80 (psC (psN p (.v (.slice none 0 0)) heap strict (.v (.pointer (some ⟨wb, 0, none⟩))) (.v (.map (some b39)))) (.v (.slice none 0 0))), Ent.box b4 25 (progCells p), Ent.map b39 [], Ent.row none 0 0 53 1 (([] : List Nat).map mapT)] ++ mapsE [] (p.funs.take 0)) pmN ?_
 refine AW.seq ?_
 refine rs (yf fo_25_0 ?_)
 refine yl ag_22 1 ?_
 refine Y1 (Yv.lenSl rfl so_22 (B rfl) eV len_funs) ?_
 refine ym (nl ?_)
 refine AW.block ?_
 refine AW.loop4 (fun (j : Nat) (bs : List Nat) (A : Option Addr) (c : Nat) => [(4, true, pv b4), (11, true, pv b41), (43, true, .sl 5 (p.funs.flatMap fnCells)), (44, true, .v (.int .i64 (p.funs.length : Int))), (45, true, .v (.int .i64 (j : Int)))]) (fun (j : Nat) (bs : List Nat) (A : Option Addr) (c : Nat) => ([Ent.box b41 80 (psC (psN p (.v (.slice A j c)) heap strict (.v (.pointer (some ⟨wb, 0, none⟩))) (.v (.map (some b39)))) (.v (.slice none 0 0))), Ent.box b4 25 (progCells p), Ent.map b39 [], Ent.row A j c 53 1 (bs.map mapT)] ++ mapsE bs (p.funs.take j))) (fun (j : Nat) (bs : List Nat) (A : Option Addr) (c : Nat) => j ≤ p.funs.length ∧ bs.length = j) (fun (j : Nat) (bs : List Nat) (A : Option Addr) (c : Nat) => p.funs.length - j) 0 ([]) none 0 ?_ ?_ ?_ ?_
 ·exact ⟨Nat.zero_le _, rfl⟩
 ·exact (su (su (su (su (su sn)))))
 ·rfl
 intro j bs A c hinv
 obtain ⟨hj, hbs⟩ := hinv
 refine rs (Y1 (Yv.lss rfl eV eV) (nl ?_))
 refine AW.seq ?_
 refine AW.cond rfl (fun h2t => ?_) (fun h2f => ?_)
 ·try replace h2t := odt h2t
  have hjl : j < p.funs.length := by omega
  have hfc := (hp.fn _ (getD_mem hjl)).code
  refine AW.skip ?_
  refine AW.seq ?_
  refine AW.block ?_
  refine rs (Y1 (Yv.indexSl rfl ss_22 (B rfl) eV eV (fun hg => ⟨rfl, (by first | omega | (simp only [len_code, len_funs, len_args, len_data]; omega))⟩)) ?_)
  refine Y1 (Yv.loadRpA rfl ag_51 eV (fun hg => fn_cells (by omega))) ?_
  refine AWL.allocOp rfl rfl (B rfl) rfl zc_51 (fun b13 => ?_)
  refine AWL.perm (List.perm_append_singleton _ _).symm ?_
  refine AWL.storeBox (i := 0) rfl rfl rfl ag_51 rfl (E rfl rfl) (E rfl rfl) rfl rfl nB (nl ?_)
  refine rs ?_
  refine AWL.makeMapOp rfl rfl (B rfl) rfl (fun b49 => ?_)
  refine AWL.perm (List.perm_append_singleton _ _).symm ?_
  refine ya ?_
  refine AW.seq ?_
  refine rs (yf fo_51_4 ?_)
  refine yl ag_49 1 ?_
  refine Y1 (Yv.lenSl rfl so_49 (B rfl) eV len_code) ?_
  refine ym (nl ?_)
  refine AW.block ?_
  refine AW.loop (fun (q : Nat) => [(4, true, pv b4), (11, true, pv b41), (43, true, .sl 5 (p.funs.flatMap fnCells)), (44, true, .v (.int .i64 (p.funs.length : Int))), (45, true, .v (.int .i64 (j : Int))), (13, true, pv b13), (14, true, .v (.map (some b49))), (51, true, .sl 11 ((p.funs.getD j default).code.flatMap insCells)), (52, true, .v (.int .i64 ((p.funs.getD j default).code.length : Int))), (53, true, .v (.int .i64 (q : Int)))]) (fun (q : Nat) => (.map b49 (lmT (whT (p.funs.getD j default).code q)) :: .box b13 51 (fnCells (p.funs.getD j default)) :: ([Ent.box b41 80 (psC (psN p (.v (.slice A j c)) heap strict (.v (.pointer (some ⟨wb, 0, none⟩))) (.v (.map (some b39)))) (.v (.slice none 0 0))), Ent.box b4 25 (progCells p), Ent.map b39 [], Ent.row A j c 53 1 (bs.map mapT)] ++ mapsE bs (p.funs.take j)))) (fun (q : Nat) => q ≤ (p.funs.getD j default).code.length) (fun (q : Nat) => (p.funs.getD j default).code.length - q) 0 ?_ ?_ ?_ ?_
  ·exact Nat.zero_le _
  ·exact (su (su (su (su (su (su (su (su (su (su sn))))))))))
  ·rfl
  intro q hq0
  refine rs (Y1 (Yv.lss rfl eV eV) (nl ?_))
  refine AW.seq ?_
  refine AW.cond rfl (fun h3t => ?_) (fun h3f => ?_)
  ·try replace h3t := odt h3t
   have hq : q < (p.funs.getD j default).code.length := by omega
   refine AW.skip ?_
   refine AW.seq ?_
   refine AW.block ?_
   refine rs (ym ?_)
   refine Y1 (Yv.indexSl rfl ss_49 (B rfl) eV eV (fun hg => ⟨rfl, (by first | omega | (simp only [len_code, len_funs, len_args, len_data]; omega))⟩)) ?_
   refine Y1 (Yv.loadRpA rfl ag_58 eV (fun hg => ins_cells (by omega))) ?_
   refine AWL.allocOp rfl rfl (B rfl) rfl zc_58 (fun b16 => ?_)
   refine AWL.perm (List.perm_append_singleton _ _).symm ?_
   refine Y1 (Yv.assign rfl eV) ?_
   refine AWL.storeBox (i := 0) rfl rfl rfl ag_58 rfl (E rfl rfl) (E rfl rfl) rfl rfl nB (nl ?_)
   refine rs (yf fo_58_0 ?_)
   refine yl ag_3 0 ?_
   refine Y1 (Yv.eql rfl eV eV) (nl ?_)
   refine AW.cond rfl (fun h4t => ?_) (fun h4f => ?_)
   ·try replace h4t := odt h4t
    refine AW.region ?_
    refine ym ?_
    refine yf fo_58_4 ?_
    refine yl ag_3 0 ?_
    refine ym ?_
    refine AWL.mapUpd (k := .i _ _) (i := 1) rfl rfl (.inl rfl) mp_53 rfl (E rfl rfl) (E rfl rfl) (E rfl rfl) rfl rfl (lm_good _ _ rfl) (nl ?_)
    refine AW.dropAt 0 ?_
    refine AW.region ?_
    refine Y1 (Yv.addN_i64 rfl eV eV (fun hg => by omega)) ?_
    refine ym (nl ?_)
    refine ⟨q + 1, by omega, by omega, (su (su (su (su (su (su (su (su (su (Sub.cons rfl (by simp) Sub.nil)))))))))), ?_⟩
    rw [wh_succ hq, whStep, if_pos h4t, ← put_lm]
    rfl
   try replace h4f := odf h4f
   refine AW.skip ?_
   refine AW.dropAt 0 ?_
   refine AW.region ?_
   refine Y1 (Yv.addN_i64 rfl eV eV (fun hg => by omega)) ?_
   refine ym (nl ?_)
   refine ⟨q + 1, by omega, by omega, (su (su (su (su (su (su (su (su (su (Sub.cons rfl (by simp) Sub.nil)))))))))), ?_⟩
   rw [wh_succ hq, whStep, if_neg h4f]
   rfl
  try replace h3f := odf h3f
  obtain rfl : q = (p.funs.getD j default).code.length := by omega
  rw [wh_all (Nat.le_refl _)]
  refine AW.exit ?_
  refine AW.region ?_
  refine ym ?_
  refine ym ?_
  refine Y1 (Yv.nilChk rfl eV) ?_
  refine yf fo_80_1 ?_
  refine yl ag_77 2 ?_
  refine ym ?_
  refine AWL.buildSlice1 rfl rfl (B rfl) rfl el_77 rfl (evsC (E rfl rfl) evs0) nB rfl rfl ?_
  refine AWL.appendRow (i := 5) rfl rfl (B rfl) rfl el_77 (B rfl) rfl (E rfl rfl) (SrcT.sl so_77 (B rfl) (E rfl rfl) rfl) (by unfold maxLen; omega) (by omega) (fun A73 c73 => ?_)
  refine Y1 (Yv.nilChk rfl eV) ?_
  refine yf fo_80_1 ?_
  refine AWL.storeBox (i := 2) rfl rfl rfl ag_77 rfl (E rfl rfl) (E rfl rfl) rfl rfl nB (nl ?_)
  refine AW.dropAt 1 ?_
  refine AW.perm (S' := ([Ent.box b41 80 (psC (psN p (.v (.slice A73 (j + 1) c73)) heap strict (.v (.pointer (some ⟨wb, 0, none⟩))) (.v (.map (some b39)))) (.v (.slice none 0 0))), Ent.box b4 25 (progCells p), Ent.map b39 [], Ent.row A73 (j + 1) c73 53 1 ((bs ++ [b49]).map mapT)] ++ mapsE bs (p.funs.take j)) ++ [.map b49 (lmT (whL (p.funs.getD j default).code))]) (by rw [List.map_append]; exact List.perm_append_singleton _ _) ?_
  refine AW.region ?_
  refine Y1 (Yv.addN_i64 rfl eV eV (fun hg => by omega)) ?_
  refine ym (nl ?_)
  refine ⟨j + 1, bs ++ [b49], A73, c73, ⟨by omega, by rw [List.length_append, hbs]; rfl⟩, by omega, (su (su (su (su (Sub.cons rfl (by simp) Sub.nil))))), ?_⟩
  rw [mapsE_succ hjl hbs, ← List.append_assoc]
 try replace h2f := odf h2f
 obtain rfl : j = p.funs.length := by omega
 refine AW.exit ?_
 refine AW.seq ?_
 rw [List.take_length]
 refine AW.perm (S' := [Ent.box b41 80 (psC (psN p (.v (.slice A p.funs.length c)) heap strict (.v (.pointer (some ⟨wb, 0, none⟩))) (.v (.map (some b39)))) (.v (.slice none 0 0))), Ent.map b39 []] ++ (Ent.box b4 25 (progCells p) :: Ent.row A p.funs.length c 53 1 (bs.map mapT) :: mapsE bs p.funs)) pmD ?_
 refine rs (yf fo_25_1 ?_)
 refine yl ag_23 2 ?_
 refine Y1 (Yv.lenSl rfl so_23 (B rfl) eV len_data) ?_
 refine ym (nl ?_)
 refine AW.block ?_
 refine AW.loop2 (fun (i : Nat) (l : List Pg) => [(4, true, pv b4), (11, true, pv b41), (78, true, .sl 1 (p.data.map u8)), (79, true, .v (.int .i64 (p.data.length : Int))), (80, true, .v (.int .i64 (i : Int)))]) (fun (i : Nat) (l : List Pg) => ((Ent.box b41 80 (psC (psN p (.v (.slice A p.funs.length c)) heap strict (.v (.pointer (some ⟨wb, 0, none⟩))) (.v (.map (some b39)))) (.v (.slice none 0 0))) :: memE 114 b39 l) ++ (Ent.box b4 25 (progCells p) :: Ent.row A p.funs.length c 53 1 (bs.map mapT) :: mapsE bs p.funs))) (fun (i : Nat) (l : List Pg) => i ≤ p.data.length ∧ PgOk l ∧ getM l = putsN (fun _ => 0) 268435456#64 p.data i) (fun (i : Nat) (l : List Pg) => p.data.length - i) 0 ([]) ?_ ?_ ?_ ?_
 ·exact ⟨Nat.zero_le _, fun j hj => absurd hj (Nat.not_lt_zero j), rfl⟩
 ·exact (su (su (su (su (su sn)))))
 ·rfl
 intro i l ⟨hi0, hl, hgl⟩
 refine rs (Y1 (Yv.lss rfl eV eV) (nl ?_))
 refine AW.seq ?_
 refine AW.cond rfl (fun h5t => ?_) (fun h5f => ?_)
 ·try replace h5t := odt h5t
  refine AW.skip ?_
  refine AW.seq ?_
  refine AW.block ?_
  refine rs (ym ?_)
  refine Y1 (Yv.indexSl rfl ss_23 (B rfl) eV eV (fun hg => ⟨rfl, (by first | omega | (simp only [len_code, len_funs, len_args, len_data]; omega))⟩)) ?_
  refine Y1 (Yv.loadRp rfl ag_5 eV (fun hg => data_at (by omega))) ?_
  refine Y1 (Yv.assign rfl eV) ?_
  refine ya ?_
  refine AW.region ?_
  refine ym ?_
  refine ym ?_
  refine Y1 (Yv.convW rfl Try.underlying3 kd_39 eV) ?_
  refine Y1 (Yv.addW (a := 268435456#64) rfl eV eV) ?_
  refine ym ?_
  refine C1 rfl ce_30 (E rfl rfl) (evsC (E rfl rfl) (evsC (E rfl rfl) (evsC (E rfl rfl) evs0))) (S1 := (Ent.box b41 80 (psC (psN p (.v (.slice A p.funs.length c)) heap strict (.v (.pointer (some ⟨wb, 0, none⟩))) (.v (.map (some b39)))) (.v (.slice none 0 0))) :: memE 114 b39 l)) (S2 := _) rfl (put30 b41 b39 (psN p (.v (.slice A p.funs.length c)) heap strict (.v (.pointer (some ⟨wb, 0, none⟩))) (.v (.map (some b39)))) (.v (.slice none 0 0)) l rfl hl (268435456#64 + wI (i : Int)) (p.data.getD i 0)) ?_
  rintro t90 S90 ⟨rfl, l3, rfl, hl3, hg3⟩
  refine nl ?_
  refine AW.region ?_
  refine Y1 (Yv.addN_i64 rfl eV eV (fun hg => by omega)) ?_
  refine ym (nl ?_)
  refine ⟨i + 1, l3, ⟨by omega, hl3, by rw [hg3, hgl]; rfl⟩, by omega, (su (su (su (su (Sub.cons rfl (by simp) Sub.nil))))), rfl⟩
 try replace h5f := odf h5f
 obtain rfl : i = p.data.length := by omega
 refine AW.exit ?_
 refine AW.rowNil 87 7 ?_
 refine AW.perm (S' := [Ent.box b41 80 (psC (psN p (.v (.slice A p.funs.length c)) heap strict (.v (.pointer (some ⟨wb, 0, none⟩))) (.v (.map (some b39)))) (.v (.slice none 0 0))), Ent.row none 0 0 87 7 []] ++ (memE 114 b39 l ++ (Ent.box b4 25 (progCells p) :: Ent.row A p.funs.length c 53 1 (bs.map mapT) :: mapsE bs p.funs))) pmE ?_
 refine rs (ym ?_)
 refine C1 rfl ce_31 (E rfl rfl) (evsC (E rfl rfl) (evsC (E rfl rfl) (evsC (E rfl rfl) (evsC (E rfl rfl) evs0)))) (S1 := [Ent.box b41 80 (psC (psN p (.v (.slice A p.funs.length c)) heap strict (.v (.pointer (some ⟨wb, 0, none⟩))) (.v (.map (some b39)))) (.v (.slice none 0 0))), Ent.row none 0 0 87 7 []]) (S2 := _) rfl ((open31 b41 (psN p (.v (.slice A p.funs.length c)) heap strict (.v (.pointer (some ⟨wb, 0, none⟩))) (.v (.map (some b39)))) 0 [] 0 none 0 0 [] hok.some hpf hf1.1 hf1.2.1 hf1.2.2.1 hf1.2.2.2 hf1.1 (by omega)).le (Les.cons .refl (.cons .refl (.cons (nil_le 1) .refl)))) ?_
 rintro t93 S93 ⟨rfl, g, c2, a, rfl⟩
 refine nl ?_
 refine AW.perm (S' := [Ent.row A p.funs.length c 53 1 (bs.map mapT)] ++ (([Ent.box b41 80 (psC (psN p (.v (.slice A p.funs.length c)) heap strict (.v (.pointer (some ⟨wb, 0, none⟩))) (.v (.map (some b39)))) (.v (.slice (some ⟨g, 0, none⟩) 1 c2))), Ent.row (some ⟨g, 0, none⟩) 1 c2 87 7 (([] : List T) ++ frC (newX p) a)] ++ frR (newX p) a) ++ (memE 114 b39 l ++ (Ent.box b4 25 (progCells p) :: mapsE bs p.funs)))) pmF ?_
 refine AW.rowSome 0 rfl (by omega) (fun gl hgl => ?_)
 subst hgl
 refine AW.perm (S' := Ent.box b4 25 (progCells p) :: SPn ⟨b41, gl, c, b39, wb, 0, bs⟩ (newC p heap strict) (newX p) g c2 a l) pmG ?_
 refine AW.dropAt 0 ?_
 refine rs (ym ?_)
 refine Y1 (Yv.assign rfl eV) ?_
 refine ya ?_
 refine AW.ret (retI (.tmp rfl (.tmp rfl .nil)) ?_)
 refine ⟨b41, b39, gl, c, bs, g, c2, a, l, rfl, hbs, hl, hgl, ?_⟩
 rfl

end Go.Proofs.Ytlfklgganokgdaa

namespace Go.Proofs.Ytlfklgganokgdaa
open Go Go.RowKit
section
variable {RF : Int → Wd64 → Wd64 → Wd64} {p : Prog} {m m' q q' : Mc}
theorem run_ok (hp : ProgOk p) (hpf : p.funs.length ≤ 1048576) (n : Nat) : ∀ {m : Mc}, MOk p m → MOk p (runM RF n m) ∧ m.c.steps ≤ (runM RF n m).c.steps ∧ (runM RF n m).c.steps ≤ m.c.steps + n ∧ (runM RF n m).c.heap = m.c.heap ∧ (runM RF n m).c.strict = m.c.strict := by
 induction n with
 | zero => intro m hm; exact ⟨hm, Int.le_refl _, by show m.c.steps ≤ m.c.steps + 0; omega, rfl, rfl⟩
 | succ n ih =>
  intro m hm
  rw [runM]
  by_cases h : m.c.st ≠ 0
  ·rw [if_pos h]; exact ⟨hm, Int.le_refl _, by omega, rfl, rfl⟩
  ·rw [if_neg h]
   have ha := hm.adv hp
   have h19 : (insOf p (advM m).x).kind ≠ 19 := by
    show (insOf p (advF m.c.prog m.x)).kind ≠ 19
    rw [hm.prog]; exact (adv_in hp hm.top).2
   rw [hm.prog]
   cases hs : stepM RF (advM m) (insOf p (advM m).x) with
   | none => exact ⟨ha.stuck, Int.le_refl _, by show m.c.steps ≤ m.c.steps + ((n + 1 : Nat) : Int); omega, rfl, rfl⟩
   | some q =>
    obtain ⟨h1, h2⟩ := step_ok hp hpf ha h19 hs
    obtain ⟨k1, k2, k3, k4, k5⟩ := ih h1.tick
    have e1 : q.c.steps = m.c.steps := h2.steps
    have e2 : (tickC q).c.steps = m.c.steps + 1 := by show q.c.steps + 1 = _; rw [e1]
    rw [e2] at k2 k3
    exact ⟨k1, by show m.c.steps ≤ (runM RF n (tickC q)).c.steps; omega, by show (runM RF n (tickC q)).c.steps ≤ _; omega, k4.trans h2.heap, k5.trans h2.strict⟩
theorem run_w (hp : ProgOk p) (hd : p.data.length ≤ 1048576) (hpf : p.funs.length ≤ 1048576) (n : Nat) : ∀ {m : Mc} {nb : Nat}, MOk p m → m.c.heap.toNat ≤ 268435456 → V.RP nb m.w → V.RP (nb + 268435458 * n) (runM RF n m).w := by
 induction n with
 | zero => intro m nb hm hh hw; exact hw
 | succ n ih =>
  intro m nb hm hh hw
  rw [runM]
  by_cases h : m.c.st ≠ 0
  ·rw [if_pos h]; exact hw.mono (by omega)
  ·rw [if_neg h]
   have ha := hm.adv hp
   have h19 : (insOf p (advM m).x).kind ≠ 19 := by
    show (insOf p (advF m.c.prog m.x)).kind ≠ 19
    rw [hm.prog]; exact (adv_in hp hm.top).2
   rw [hm.prog]
   cases hs : stepM RF (advM m) (insOf p (advM m).x) with
   | none => exact hw.mono (by omega)
   | some q =>
    obtain ⟨h1, h2⟩ := step_ok hp hpf ha h19 hs
    have hq := step_w (m := advM m) hp hd ha.prog hh hw hs
    exact (ih h1.tick (by show q.c.heap.toNat ≤ _; rw [h2.heap]; exact hh) hq).mono (by omega)
/-! ### strictly and not -/
structure SimF (x y : Fr) : Prop where
 is : ∃ s, y = { x with set := s } ∧ leB x.set s ∧ x.set.length = s.length
def SimL : List Fr → List Fr → Prop
 | [], [] => True
 | x :: r, y :: s => SimF x y ∧ SimL r s
 | _, _ => False
structure SimC (c c' : Pc) : Prop where
 is : ∃ b, c' = { c with strict := b } ∧ (b = true → c.strict = true)
structure SimM (m m' : Mc) : Prop where
 c : SimC m.c m'.c
 x : SimF m.x m'.x
 bl : SimL m.bl m'.bl
 mem : m'.mem = m.mem
 w : m'.w = m.w
theorem SimF.refl (x : Fr) : SimF x x := ⟨x.set, rfl, leB.refl _, rfl⟩
theorem SimL.len : ∀ {l l' : List Fr}, SimL l l' → l.length = l'.length
 | [], [], _ => rfl
 | [], y :: s, h => h.elim
 | x :: r, [], h => h.elim
 | x :: r, y :: s, h => by rw [List.length_cons, List.length_cons, SimL.len h.2]
theorem okS_mono {a b : List Bool} (h : leB a b) {l : List Int} (ha : okS a l = true) : okS b l = true := by
 unfold okS at ha ⊢
 rw [List.all_eq_true] at ha ⊢
 exact fun r hr => h _ (ha r hr)
theorem stepA_sim {heap : Wd64} {x : Fr} {s : List Bool} {i : Ins} (hs : leB x.set s) (h0 : okS x.set (readsF i) = true) :
    stepA RF heap { x with set := s } i = (stepA RF heap x i).map fun y => { y with set := if i.kind = 32 then s else s.set i.d.toNat true } := by
 have h1 := okS_mono hs h0
 unfold stepA
 rw [if_neg (show ¬ okS ({ x with set := s } : Fr).set (readsF i) = false by rw [show ({ x with set := s } : Fr).set = s from rfl, h1]; decide), if_neg (show ¬ okS x.set (readsF i) = false by rw [h0]; decide)]
 by_cases hk : i.kind = 32
 ·simp only [if_pos hk]; rfl
 simp only [if_neg hk]
 rw [show valueF RF heap { x with set := s } i = valueF RF heap x i from rfl]
 by_cases hv : (valueF RF heap x i).2 = true
 ·simp only [if_pos hv]; rfl
 simp only [if_neg hv]; rfl
theorem stepA_set {heap : Wd64} {x y : Fr} {i : Ins} (h : stepA RF heap x i = some y) : y.set = if i.kind = 32 then x.set else x.set.set i.d.toNat true := by
 unfold stepA at h
 split at h
 ·cases h
 split at h
 ·rename_i hk
  cases h; rw [if_pos hk]; rfl
 rename_i hk
 split at h
 ·cases h; rw [if_neg hk]; rfl
 cases h
theorem sim_set {x : Fr} {s : List Bool} (hs : leB x.set s) (hl : x.set.length = s.length) (d : Int) (v : Wd64) : SimF (setD x d v) (setD { x with set := s } d v) :=
 ⟨_, rfl, hs.set hl _, by show (x.set.set _ _).length = (s.set _ _).length; rw [List.length_set, List.length_set, hl]⟩
theorem sysR_sim {c c' : Pc} {x : Fr} {s : List Bool} {bl bl' : List Fr} {mem : Mf} {w : V.PW} {i : Ins} (hc : SimC c c') : sysR ⟨c', { x with set := s }, bl', mem, w⟩ i = sysR ⟨c, x, bl, mem, w⟩ i := by
 obtain ⟨b, rfl, _⟩ := hc
 rfl
theorem sim_step (hm : MOk p m) (h : SimM m m') {i : Ins} (hq : stepM RF m i = some q) : ∃ q', stepM RF m' i = some q' ∧ SimM q q' := by
 obtain ⟨c, x, bl, mem, w⟩ := m
 obtain ⟨c', x', bl', mem', w'⟩ := m'
 obtain ⟨⟨b, hc, hb⟩, ⟨s, hx, hs, hl⟩, hbl, hmem, hw⟩ := h
 dsimp only at hc hb hx hs hl hbl hmem hw
 subst hc hx hmem hw
 have h0 : okS x.set (readsF i) = true := by
  cases h0 : okS x.set (readsF i) with
  | true => rfl
  | false => rw [stepM, if_pos h0] at hq; cases hq
 have h1 := okS_mono hs h0
 have hlen := hbl.len
 unfold stepM at hq ⊢
 dsimp only at hq ⊢
 rw [if_neg (by rw [h0]; decide)] at hq
 rw [if_neg (by rw [h1]; decide)]
 by_cases k1 : i.kind = 20 ∨ i.kind = 21
 ·rw [if_pos k1] at hq ⊢
  cases hq
  exact ⟨_, rfl, ⟨b, rfl, hb⟩, ⟨s, rfl, hs, hl⟩, hbl, rfl, rfl⟩
 rw [if_neg k1] at hq ⊢
 by_cases k2 : i.kind = 26
 ·rw [if_pos k2] at hq ⊢
  cases hq
  refine ⟨_, rfl, ?_⟩
  unfold backM
  dsimp only
  cases bl with
  | nil =>
   cases bl' with
   | cons y r => exact hbl.elim
   | nil =>
    refine ⟨?_, ⟨s, rfl, hs, hl⟩, hbl, rfl, rfl⟩
    unfold backC
    dsimp only
    split
    ·exact ⟨b, rfl, hb⟩
    ·exact ⟨b, rfl, hb⟩
  | cons y r =>
   cases bl' with
   | nil => exact hbl.elim
   | cons y' r' =>
    obtain ⟨⟨⟨sy, rfl, hsy, hly⟩⟩, hr⟩ := hbl
    exact ⟨⟨b, rfl, hb⟩, sim_set hsy hly _ _, hr, rfl, rfl⟩
 rw [if_neg k2] at hq ⊢
 by_cases k3 : i.kind = 22 ∨ i.kind = 23 ∨ i.kind = 24 ∨ i.kind = 25
 ·rw [if_pos k3] at hq ⊢
  unfold jumpM at hq ⊢
  dsimp only at hq ⊢
  rw [show calleeF c.prog { x with set := s } i = calleeF c.prog x i from rfl]
  cases hcal : calleeF c.prog x i with
  | none => rw [hcal] at hq; cases hq
  | some f =>
   rw [hcal] at hq
   dsimp only at hq ⊢
   by_cases k4 : i.kind = 24 ∨ i.kind = 25
   ·rw [if_pos k4] at hq ⊢
    cases hq
    exact ⟨_, rfl, ⟨b, rfl, hb⟩, SimF.refl _, hbl, rfl, rfl⟩
   ·rw [if_neg k4] at hq ⊢
    rw [← hlen]
    by_cases k5 : 1048576 ≤ bl.length + 1
    ·rw [if_pos k5] at hq; cases hq
    ·rw [if_neg k5] at hq ⊢
     cases hq
     refine ⟨_, rfl, ⟨b, rfl, hb⟩, SimF.refl _, ⟨?_, hbl⟩, rfl, rfl⟩
     refine ⟨_, rfl, ?_, ?_⟩
     ·show leB (if c.strict = true then List.replicate x.nr false else x.set) (if b = true then List.replicate x.nr false else s)
      by_cases hst : c.strict = true
      ·rw [if_pos hst]
       intro n hn
       rw [List.getD_eq_getElem?_getD, List.getElem?_replicate] at hn
       split at hn <;> cases hn
      ·rw [if_neg hst, if_neg (fun e => hst (hb e))]
       exact hs
     ·show (if c.strict = true then List.replicate x.nr false else x.set).length = (if b = true then List.replicate x.nr false else s).length
      have ht : x.set.length = x.nr := hm.top.ok.t
      split <;> split <;> first | (simp only [List.length_replicate]; done) | (simp only [List.length_replicate]; omega) | omega
 rw [if_neg k3] at hq ⊢
 by_cases k6 : i.kind = 18
 ·rw [if_pos k6] at hq ⊢
  rw [show memOk { c with strict := b } (adF { x with set := s } i) i.size = memOk c (adF x i) i.size from rfl]
  by_cases k7 : memOk c (adF x i) i.size = true
  ·rw [if_pos k7] at hq ⊢
   cases hq
   exact ⟨_, rfl, ⟨b, rfl, hb⟩, ⟨s, rfl, hs, hl⟩, hbl, rfl, rfl⟩
  rw [if_neg k7] at hq; cases hq
 rw [if_neg k6] at hq ⊢
 by_cases k8 : i.kind = 17
 ·rw [if_pos k8] at hq ⊢
  rw [show memOk { c with strict := b } (adF { x with set := s } i) i.size = memOk c (adF x i) i.size from rfl]
  by_cases k7 : memOk c (adF x i) i.size = true
  ·rw [if_pos k7] at hq ⊢
   cases hq
   obtain ⟨⟨s2, e2, h2, l2⟩⟩ := sim_set (x := x) hs hl i.d (leF mem' (adF x i) i.size.toNat)
   exact ⟨_, rfl, ⟨b, rfl, hb⟩, ⟨_, rfl, hs.set hl _, by show (x.set.set i.d.toNat true).length = (s.set i.d.toNat true).length; rw [List.length_set, List.length_set, hl]⟩, hbl, rfl, rfl⟩
  rw [if_neg k7] at hq; cases hq
 rw [if_neg k8] at hq ⊢
 by_cases k9 : i.kind = 30
 ·rw [if_pos k9] at hq ⊢
  unfold sysM at hq ⊢
  dsimp only at hq ⊢
  by_cases k10 : i.imm = 60
  ·rw [if_pos k10] at hq ⊢
   cases hq
   exact ⟨_, rfl, ⟨b, rfl, hb⟩, ⟨s, rfl, hs, hl⟩, hbl, rfl, rfl⟩
  rw [if_neg k10] at hq ⊢
  rw [sysR_sim (bl := bl) (c := c) ⟨b, rfl, hb⟩]
  cases hr : sysR ⟨c, x, bl, mem', w'⟩ i with
  | none => rw [hr] at hq; cases hq
  | some r =>
   rw [hr] at hq
   dsimp only at hq ⊢
   cases hq
   exact ⟨_, rfl, ⟨b, rfl, hb⟩, ⟨_, rfl, hs.set hl _, by show (x.set.set i.d.toNat true).length = (s.set i.d.toNat true).length; rw [List.length_set, List.length_set, hl]⟩, hbl, rfl, rfl⟩
 rw [if_neg k9] at hq ⊢
 rw [stepA_sim hs h0]
 cases hA : stepA RF c.heap x i with
 | none => rw [hA] at hq; cases hq
 | some y =>
  rw [hA] at hq
  cases hq
  refine ⟨_, rfl, ⟨b, rfl, hb⟩, ⟨_, rfl, ?_, ?_⟩, hbl, rfl, rfl⟩
  ·show leB y.set _
   rw [stepA_set hA]
   split
   ·exact hs
   ·exact hs.set hl _
  ·show y.set.length = _
   rw [stepA_set hA]
   split
   ·exact hl
   ·rw [List.length_set, List.length_set, hl]
theorem sim_none (h : SimM m m') {i : Ins} (h0 : okS m.x.set (readsF i) = true) (hq : stepM RF m i = none) : stepM RF m' i = none := by
 obtain ⟨c, x, bl, mem, w⟩ := m
 obtain ⟨c', x', bl', mem', w'⟩ := m'
 obtain ⟨⟨b, hc, hb⟩, ⟨s, hx, hs, hl⟩, hbl, hmem, hw⟩ := h
 dsimp only at hc hb hx hs hl hbl hmem hw h0
 subst hc hx hmem hw
 have h1 := okS_mono hs h0
 have hlen := hbl.len
 unfold stepM at hq ⊢
 dsimp only at hq ⊢
 rw [if_neg (by rw [h0]; decide)] at hq
 rw [if_neg (by rw [h1]; decide)]
 by_cases k1 : i.kind = 20 ∨ i.kind = 21
 ·rw [if_pos k1] at hq; cases hq
 rw [if_neg k1] at hq ⊢
 by_cases k2 : i.kind = 26
 ·rw [if_pos k2] at hq; cases hq
 rw [if_neg k2] at hq ⊢
 by_cases k3 : i.kind = 22 ∨ i.kind = 23 ∨ i.kind = 24 ∨ i.kind = 25
 ·rw [if_pos k3] at hq ⊢
  unfold jumpM at hq ⊢
  dsimp only at hq ⊢
  rw [show calleeF c.prog { x with set := s } i = calleeF c.prog x i from rfl]
  cases hcal : calleeF c.prog x i with
  | none => rfl
  | some f =>
   rw [hcal] at hq
   dsimp only at hq ⊢
   by_cases k4 : i.kind = 24 ∨ i.kind = 25
   ·rw [if_pos k4] at hq; cases hq
   ·rw [if_neg k4] at hq ⊢
    rw [← hlen]
    by_cases k5 : 1048576 ≤ bl.length + 1
    ·rw [if_pos k5]
    ·rw [if_neg k5] at hq; cases hq
 rw [if_neg k3] at hq ⊢
 by_cases k6 : i.kind = 18
 ·rw [if_pos k6] at hq ⊢
  rw [show memOk { c with strict := b } (adF { x with set := s } i) i.size = memOk c (adF x i) i.size from rfl]
  by_cases k7 : memOk c (adF x i) i.size = true
  ·rw [if_pos k7] at hq; cases hq
  rw [if_neg k7]
 rw [if_neg k6] at hq ⊢
 by_cases k8 : i.kind = 17
 ·rw [if_pos k8] at hq ⊢
  rw [show memOk { c with strict := b } (adF { x with set := s } i) i.size = memOk c (adF x i) i.size from rfl]
  by_cases k7 : memOk c (adF x i) i.size = true
  ·rw [if_pos k7] at hq; cases hq
  rw [if_neg k7]
 rw [if_neg k8] at hq ⊢
 by_cases k9 : i.kind = 30
 ·rw [if_pos k9] at hq ⊢
  unfold sysM at hq ⊢
  dsimp only at hq ⊢
  by_cases k10 : i.imm = 60
  ·rw [if_pos k10] at hq; cases hq
  rw [if_neg k10] at hq ⊢
  rw [sysR_sim (bl := bl) (c := c) ⟨b, rfl, hb⟩]
  cases hr : sysR ⟨c, x, bl, mem', w'⟩ i with
  | none => rfl
  | some r => rw [hr] at hq; cases hq
 rw [if_neg k9] at hq ⊢
 rw [stepA_sim hs h0]
 cases hA : stepA RF c.heap x i with
 | none => rfl
 | some y => rw [hA] at hq; cases hq
theorem SimM.adv (h : SimM m m') : SimM (advM m) (advM m') := by
 obtain ⟨c, x, bl, mem, w⟩ := m
 obtain ⟨c', x', bl', mem', w'⟩ := m'
 obtain ⟨⟨b, hc, hb⟩, ⟨s, hx, hs, hl⟩, hbl, hmem, hw⟩ := h
 dsimp only at hc hb hx hs hl hbl hmem hw
 subst hc hx hmem hw
 exact ⟨⟨b, rfl, hb⟩, ⟨s, rfl, hs, hl⟩, hbl, rfl, rfl⟩
theorem SimM.tick (h : SimM m m') : SimM (tickC m) (tickC m') := by
 obtain ⟨c, x, bl, mem, w⟩ := m
 obtain ⟨c', x', bl', mem', w'⟩ := m'
 obtain ⟨⟨b, hc, hb⟩, hx, hbl, hmem, hw⟩ := h
 dsimp only at hc hb
 subst hc
 exact ⟨⟨b, rfl, hb⟩, hx, hbl, hmem, hw⟩
theorem SimM.stuck (h : SimM m m') : SimM (stuckC m) (stuckC m') := by
 obtain ⟨c, x, bl, mem, w⟩ := m
 obtain ⟨c', x', bl', mem', w'⟩ := m'
 obtain ⟨⟨b, hc, hb⟩, hx, hbl, hmem, hw⟩ := h
 dsimp only at hc hb
 subst hc
 exact ⟨⟨b, rfl, hb⟩, hx, hbl, hmem, hw⟩
theorem SimM.ins (h : SimM m m') (p : Prog) : insOf p m'.x = insOf p m.x := by
 obtain ⟨⟨s, hx, _⟩⟩ := h.x
 rw [hx]; rfl
theorem SimM.same (h : SimM m m') : m'.c.st = m.c.st ∧ m'.c.code = m.c.code ∧ m'.c.steps = m.c.steps ∧ m'.w = m.w ∧ m'.c.prog = m.c.prog := by
 obtain ⟨⟨b, hc, _⟩⟩ := h.c
 rw [hc]
 exact ⟨rfl, rfl, rfl, h.w, rfl⟩
structure Keep (RF : Int → Wd64 → Wd64 → Wd64) (p : Prog) (I : Mc → Prop) : Prop where
 adv : ∀ m, MOk p m → I m → I (advM m)
 step : ∀ m q, MOk p m → I m → (insOf p m.x).kind ≠ 19 → stepM RF m (insOf p m.x) = some q → I (tickC q)
 set : ∀ m, MOk p m → I m → okS m.x.set (readsF (insOf p m.x)) = true
theorem run_sim (hp : ProgOk p) (hpf : p.funs.length ≤ 1048576) (n : Nat) : ∀ {m m' : Mc}, MOk p m → MOk p m' → SimM m m' → SimM (runM RF n m) (runM RF n m') ∨ ((runM RF n m).c.st = 2 ∧ (runM RF n m).c.steps ≤ (runM RF n m').c.steps) := by
 induction n with
 | zero => intro m m' h1 h2 h; exact .inl h
 | succ n ih =>
  intro m m' h1 h2 h
  rw [runM, runM, h.same.1]
  by_cases h0 : m.c.st ≠ 0
  ·rw [if_pos h0, if_pos h0]; exact .inl h
  ·rw [if_neg h0, if_neg h0, h1.prog, h2.prog, h.adv.ins p]
   have ha1 := h1.adv hp
   have ha2 := h2.adv hp
   have h19 : (insOf p (advM m).x).kind ≠ 19 := by
    show (insOf p (advF m.c.prog m.x)).kind ≠ 19
    rw [h1.prog]; exact (adv_in hp h1.top).2
   have h19' : (insOf p (advM m').x).kind ≠ 19 := by rw [h.adv.ins p]; exact h19
   cases hs : stepM RF (advM m) (insOf p (advM m).x) with
   | some q =>
    obtain ⟨q', hs', hq⟩ := sim_step ha1 h.adv hs
    rw [hs']
    have e1 := step_ok hp hpf ha1 h19 hs
    have e2 := step_ok hp hpf ha2 h19' (by rw [h.adv.ins p]; exact hs')
    exact ih e1.1.tick e2.1.tick hq.tick
   | none =>
    cases h3 : okS (advM m).x.set (readsF (insOf p (advM m).x)) with
    | true =>
     rw [sim_none h.adv h3 hs]
     exact .inl h.adv.stuck
    | false =>
     refine .inr ⟨rfl, ?_⟩
     show m.c.steps ≤ _
     rw [← h.same.2.2.1]
     cases hs' : stepM RF (advM m') (insOf p (advM m).x) with
     | none => exact Int.le_refl _
     | some q' =>
      have e2 := step_ok hp hpf ha2 h19' (by rw [h.adv.ins p]; exact hs')
      have e3 := (run_ok (RF := RF) hp hpf n e2.1.tick).2.1
      have e4 : (tickC q').c.steps = m'.c.steps + 1 := by
       show q'.c.steps + 1 = _
       rw [e2.2.steps]; rfl
      show m'.c.steps ≤ (runM RF n (tickC q')).c.steps
      omega
theorem run_strict (hp : ProgOk p) (hpf : p.funs.length ≤ 1048576) {I : Mc → Prop} (hI : Keep RF p I) (n : Nat) : ∀ {m m' : Mc}, MOk p m → MOk p m' → I m → SimM m m' → SimM (runM RF n m) (runM RF n m') := by
 induction n with
 | zero => intro m m' h1 h2 hi h; exact h
 | succ n ih =>
  intro m m' h1 h2 hi h
  rw [runM, runM, h.same.1]
  by_cases h0 : m.c.st ≠ 0
  ·rw [if_pos h0, if_pos h0]; exact h
  ·rw [if_neg h0, if_neg h0, h1.prog, h2.prog, h.adv.ins p]
   have ha1 := h1.adv hp
   have ha2 := h2.adv hp
   have hia := hI.adv m h1 hi
   have h19 : (insOf p (advM m).x).kind ≠ 19 := by
    show (insOf p (advF m.c.prog m.x)).kind ≠ 19
    rw [h1.prog]; exact (adv_in hp h1.top).2
   have h19' : (insOf p (advM m').x).kind ≠ 19 := by rw [h.adv.ins p]; exact h19
   cases hs : stepM RF (advM m) (insOf p (advM m).x) with
   | some q =>
    obtain ⟨q', hs', hq⟩ := sim_step ha1 h.adv hs
    rw [hs']
    have e1 := step_ok hp hpf ha1 h19 hs
    have e2 := step_ok hp hpf ha2 h19' (by rw [h.adv.ins p]; exact hs')
    exact ih e1.1.tick e2.1.tick (hI.step _ q ha1 hia h19 hs) hq.tick
   | none =>
    rw [sim_none h.adv (hI.set _ ha1 hia) hs]
    exact h.adv.stuck
end
end Go.Proofs.Ytlfklgganokgdaa

namespace Go.Proofs.Ytlfklgganokgdaa.V
open Go Go.RowKit
theorem nw_mem_aux (l : Fl) : ∀ (acc : Fl), (∀ x ∈ acc, fitsB x.1 = true) → ∀ x ∈ l.foldl stepN acc, (x ∈ acc ∨ x ∈ l) ∧ fitsB x.1 = true := by
 induction l with
 | nil => intro acc ha x hx; exact ⟨.inl hx, ha x hx⟩
 | cons y r ih =>
  intro acc ha x hx
  rw [List.foldl_cons] at hx
  have hst : ∀ z ∈ stepN acc y, (z ∈ acc ∨ z = y) ∧ fitsB z.1 = true := fun z hz => by
   unfold stepN at hz
   split at hz
   ·rename_i hc
    rw [Bool.and_eq_true] at hc
    rcases List.mem_append.1 hz with hz | hz
    ·exact ⟨.inl hz, ha z hz⟩
    ·rw [List.mem_singleton.1 hz]
     exact ⟨.inr rfl, hc.2⟩
   ·exact ⟨.inl hz, ha z hz⟩
  obtain ⟨h1, h2⟩ := ih _ (fun z hz => (hst z hz).2) x hx
  refine ⟨?_, h2⟩
  rcases h1 with h1 | h1
  ·rcases (hst x h1).1 with h | h
   ·exact .inl h
   ·exact .inr (h ▸ List.mem_cons_self ..)
  ·exact .inr (List.mem_cons_of_mem _ h1)
theorem nw_mem {l : Fl} {x : Nm × List UInt8} (h : x ∈ nF l) : x ∈ l ∧ fitsB x.1 = true := by
 obtain ⟨h1, h2⟩ := nw_mem_aux l [] (fun _ h => by cases h) x h
 exact ⟨h1.resolve_left (fun h => by cases h), h2⟩
theorem nw_short {s : Nm} (h : fitsB s = true) : s.length ≤ 255 := by
 rw [fits_eq, Bool.and_eq_true, Bool.and_eq_true, decide_eq_true_eq] at h
 have := of_decide_eq_true h.1.2
 omega
def newW (stdin : List UInt8) (files : Fl) : PW := ⟨nF files, stdin, opn0, []⟩
theorem abs_new {stdin : List UInt8} {files : Fl} {fl : List FileR} (hfl : fl.map nb = nF files) : absW ⟨fl, stdin, opn0, [], none, 0⟩ = newW stdin files := by
 unfold absW newW
 rw [hfl]
theorem rp_new {B : Nat} {stdin : List UInt8} {files : Fl} (hs : stdin.length ≤ B) (hl : files.length ≤ B) (hd : ∀ x ∈ files, x.2.length ≤ B) : RP B (newW stdin files) := by
 have hnl : (nF files).length ≤ files.length := by
  have := nF_len files files.length (Nat.le_refl _)
  rwa [List.take_length] at this
 refine ⟨⟨rfl, Nat.zero_le _, fun x hx => (by cases hx), fun f hf => hd f (nw_mem hf).1, fun d hd => ?_, hs, by show (nF files).length ≤ B; omega⟩, ⟨rfl, fun d hd q => ?_⟩, ?_, fun f hf => nw_short (nw_mem hf).2⟩
 ·rw [(show ∀ d ∈ opn0, d.place = 0 by decide) d hd]
  exact Nat.zero_le _
 ·have := (show ∀ d ∈ opn0, d.kind ≠ 4 ∧ d.kind ≠ 5 by decide) d hd
  rcases q with q | q
  ·exact absurd q this.1
  exact absurd q this.2
 exact nF_uniq files [] (by simp)
end Go.Proofs.Ytlfklgganokgdaa.V

namespace Go.Proofs.Ytlfklgganokgdaa.V
open Go Go.RowKit
def evVals (e : Evt) : List Value := [.int .i64 e.kind, .string ⟨e.name.toArray⟩, .string ⟨e.text.toArray⟩]
theorem ba_eq (a b : List UInt8) : ((⟨a.toArray⟩ : ByteArray) = ⟨b.toArray⟩) = (a = b) := by
 apply propext
 constructor
 ·intro h
  have := congrArg (fun x : ByteArray => x.data.toList) h
  simpa using this
 rintro rfl
 rfl
theorem ev_eq (a b : Evt) : eqCells (evVals a) (evVals b) [(0, .i), (1, .s), (2, .s)] = some (decide (a = b)) := by
 cases a; cases b
 simp [eqCells, evVals, eqCell, Evt.mk.injEq, Bool.decide_and, Bool.and_assoc, ba_eq]
theorem take_gd {α : Type} [Inhabited α] {l : List α} {j : Nat} (h : j < l.length) : l.take (j + 1) = l.take j ++ [l.getD j default] := by
 rw [List.take_succ_eq_append_getElem h, getD_eq' h]
theorem same_st {α : Type} [Inhabited α] {a b : List α} {j : Nat} (hl : a.length = b.length) (hj : j < a.length) (h : a.take j = b.take j) (he : a.getD j default = b.getD j default) : a.take (j + 1) = b.take (j + 1) := by
 rw [take_gd hj, take_gd (by omega), h, he]
theorem ev_cells {l : List Evt} {j : Nat} (h : j < l.length) : ((l.flatMap evCells).drop (j * 3)).take 3 = evCells (l.getD j default) := by
 rw [drop_flat ek, List.drop_eq_getElem_cons h, List.flatMap_cons, getD_eq' h]
 rw [List.take_append_of_le_length (by rw [ek]; exact Nat.le_refl _)]
 exact List.take_of_length_le (by rw [ek]; exact Nat.le_refl _)
end Go.Proofs.Ytlfklgganokgdaa.V

namespace Go.Proofs.Ytlfklgganokgdaa.V
open Go Go.RowKit

set_option maxHeartbeats 400000 in
theorem Same49T (l m : List Evt) (hl : l.length ≤ 1099511627776) (hm : m.length ≤ 1099511627776) :
    ACalls Try.prog 18 [.sl 3 (l.flatMap evCells), .sl 3 (m.flatMap evCells)] [] (fun t S => t = .v (.bool (decide (l = m)))) := by
 refine ACalls.intro Try.func18 rfl Try.ntmps18 nB rfl fun X w0 => ?_
 refine ra ?_
 refine AW.seq ?_
 refine rs (ym ?_)
 refine Y1 (Yv.lenSl rfl so_44 (B rfl) eV len_ev) ?_
 refine ym ?_
 refine Y1 (Yv.lenSl rfl so_44 (B rfl) eV len_ev) ?_
 refine Y1 (Yv.neq rfl eV eV) (nl ?_)
 refine AW.cond rfl (fun h0t => ?_) (fun h0f => ?_)
 ·
  try replace h0t := odt h0t
  simp only [Bool.or_eq_true, Bool.and_eq_true, Bool.or_eq_false_iff, Bool.and_eq_false_iff, Bool.not_eq_true', Bool.not_eq_false', decide_eq_true_eq, decide_eq_false_iff_not, Decidable.not_not] at h0t
  refine ra ?_
  refine AW.ret (retI (.tmp rfl .nil) ?_)
  rw [decide_eq_false (fun q => h0t (by rw [q]))]; rfl
 try replace h0f := odf h0f
 simp only [Bool.or_eq_true, Bool.and_eq_true, Bool.or_eq_false_iff, Bool.and_eq_false_iff, Bool.not_eq_true', Bool.not_eq_false', decide_eq_true_eq, decide_eq_false_iff_not, Decidable.not_not] at h0f
 refine AW.skip ?_
 refine AW.seq ?_
 refine ra ?_
 refine AW.block ?_
 refine AW.loop (fun (j : Nat) => [(0, true, .sl 3 (l.flatMap evCells)), (1, true, .sl 3 (m.flatMap evCells)), (5, true, .v (.int .i64 (j : Int)))]) (fun (j : Nat) => []) (fun (j : Nat) => l.length = m.length ∧ j ≤ l.length ∧ l.take j = m.take j) (fun (j : Nat) => l.length - j) 0 ?_ ?_ ?_ ?_
 ·exact ⟨by omega, Nat.zero_le _, rfl⟩
 ·exact (su (su (su sn)))
 ·rfl
 ·
  intro j hinv
  obtain ⟨hlm, hj, htk⟩ := hinv
  refine AW.seq ?_
  refine rs (ym ?_)
  refine ym ?_
  refine Y1 (Yv.lenSl rfl so_44 (B rfl) eV len_ev) ?_
  refine Y1 (Yv.lss rfl eV eV) (nl ?_)
  refine AW.cond rfl (fun h1t => ?_) (fun h1f => ?_)
  ·
   try replace h1t := odt h1t
   refine AW.skip ?_
   refine AW.seq ?_
   refine AW.block ?_
   refine AW.rseqQ rfl (by kernel_rfl) ?_
   refine qm ?_
   refine qm ?_
   refine Q1 (Yv.indexSl rfl ss_44 (B rfl) eV eV (fun hg => ⟨rfl, (by first | omega | (simp only [len_ev]; omega))⟩)) ?_
   refine Q1 (Yv.loadRpA (l' := evCells (l.getD j default)) rfl ag_90 eV (fun hg => ⟨ev_cells (by omega), rfl⟩)) ?_
   refine qm ?_
   refine qm ?_
   refine Q1 (Yv.indexSl rfl ss_44 (B rfl) eV eV (fun hg => ⟨rfl, (by first | omega | (simp only [len_ev]; omega))⟩)) ?_
   refine Q1 (Yv.loadRpA (l' := evCells (m.getD j default)) rfl ag_90 eV (fun hg => ⟨ev_cells (by omega), rfl⟩)) ?_
   refine Q1 (Yv.neqA (us := evVals (l.getD j default)) (vs := evVals (m.getD j default)) rfl fl_90 eV eV rfl rfl (ev_eq (l.getD j default) (m.getD j default))) ?_
   refine AWQ.nil ?_
   refine AW.cond rfl (fun h2t => ?_) (fun h2f => ?_)
   ·
    try replace h2t := odt h2t
    have hne : ¬ (l.getD j default) = (m.getD j default) := by simpa using h2t
    refine ra ?_
    refine AW.ret (retI (.tmp rfl .nil) ?_)
    rw [decide_eq_false (fun q => hne (by rw [q]))]; rfl
   try replace h2f := odf h2f
   have heq : (l.getD j default) = (m.getD j default) := by simpa using h2f
   refine AW.skip ?_
   refine AW.region ?_
   refine ym ?_
   refine Y1 (Yv.addN_i64 rfl eV eV (fun hg => by omega)) ?_
   refine ya ?_
   refine ⟨j + 1, ⟨hlm, by omega, same_st hlm (by omega) htk heq⟩, by omega, (su (su (Sub.cons rfl (by simp) Sub.nil))), rfl⟩
  try replace h1f := odf h1f
  refine AW.exit ?_
  refine ra ?_
  refine AW.ret (retI (.tmp rfl .nil) ?_)
  have e : l = m := by
   have h := htk
   rw [List.take_of_length_le (by omega), List.take_of_length_le (by omega)] at h
   exact h
  rw [decide_eq_true e]; rfl

end Go.Proofs.Ytlfklgganokgdaa.V

namespace Go.Proofs.Ytlfklgganokgdaa
open Go Go.RowKit

def pickF (c : Int) (n : Int) : Int := (if c < 0 then -(c + 1) else c) % n
theorem pick_in (c : Int) {n : Int} (h : 0 < n) : 0 ≤ pickF c n ∧ pickF c n < n := ⟨Int.emod_nonneg _ (by omega), Int.emod_lt_of_pos _ h⟩
/-! ### a whole process, and what it is asked -/
theorem sp_box (L : Lay) (m : Mc) (q : Qp) : ∃ F, SP L m q = [Ent.box L.s 80 (psC (psL' L m.c) (.v (.slice (some ⟨q.g, 0, none⟩) (q.K.length + 1) q.c)))] ++ F := ⟨_, rfl⟩
theorem sp_w (L : Lay) (m : Mc) (q : Qp) : ∃ F, (SP L m q).Perm (V.WSt L.wb L.wm q.ws ++ F) := by
 refine ⟨p6 L m.c m.x q.g q.c q.a q.K ++ (memE 114 L.pg q.l ++ (rowsE q.K ++ labE L m.c.prog)), ?_⟩
 unfold SP memW
 rw [List.append_assoc (memE 114 L.pg q.l)]
 refine List.Perm.trans ((List.perm_append_comm_assoc (memE 114 L.pg q.l) (V.WSt L.wb L.wm q.ws) (rowsE q.K ++ labE L m.c.prog)).append_left (p6 L m.c m.x q.g q.c q.a q.K)) ?_
 exact List.perm_append_comm_assoc (p6 L m.c m.x q.g q.c q.a q.K) (V.WSt L.wb L.wm q.ws) (memE 114 L.pg q.l ++ (rowsE q.K ++ labE L m.c.prog))
theorem code_sp (L : Lay) (m : Mc) (q : Qp) : ACalls Try.prog 17 [.v (.pointer (some ⟨L.s, 0, none⟩))] (SP L m q) (fun t S => t = zi m.c.code ∧ S = SP L m q) := by
 obtain ⟨F, hF⟩ := sp_box L m q
 exact (Code17 L.s (psL' L m.c) _).keepIn F (by rw [hF])
theorem steps_sp (L : Lay) (m : Mc) (q : Qp) : ACalls Try.prog 16 [.v (.pointer (some ⟨L.s, 0, none⟩))] (SP L m q) (fun t S => t = zi m.c.steps ∧ S = SP L m q) := by
 obtain ⟨F, hF⟩ := sp_box L m q
 exact (Steps16 L.s (psL' L m.c) _).keepIn F (by rw [hF])
theorem trace_sp (L : Lay) (m : Mc) (q : Qp) (n : Nat) (hq : Rel m q) (hw : V.RP n m.w) (hn : n ≤ 549755813888) : ACalls Try.prog 19 [V.wp L.wb] (SP L m q) (fun t S => t = .sl 3 (m.w.trace.flatMap V.evCells) ∧ S = SP L m q) := by
 obtain ⟨F, hF⟩ := sp_w L m q
 have h := V.Trace14 L.wb L.wm q.ws n (by rw [← hq.w] at hw; exact hw.wb) (by omega)
 have e : q.ws.trace = m.w.trace := by rw [← hq.w]; rfl
 rw [e] at h
 exact h.keepIn F hF
set_option maxHeartbeats 400000 in
theorem pick14 (c n : Int) (h0 : -9223372036854775808 ≤ c) (h1 : c ≤ 9223372036854775807) (h2 : 0 < n) :
    ACalls Try.prog 14 [zi c, zi n] [] (fun t S => t = zi (pickF c n)) := by
 refine ACalls.intro Try.func14 rfl Try.ntmps14 nB rfl fun X w0 => ?_
 refine ra ?_
 refine AW.seq ?_
 refine rs (ym ?_)
 refine Y1 (Yv.lss rfl eV eV) (nl ?_)
 refine AW.cond rfl (fun h0t => ?_) (fun h0f => ?_)
 ·try replace h0t := odt h0t
  refine AW.region ?_
  refine ym ?_
  refine Y1 (Yv.addN_i64 rfl eV eV (fun hg => by omega)) ?_
  refine Y1 (Yv.neg rfl eV) ?_
  have e9 : IntKind.i64.wrap (0 - (c + 1)) = -(c + 1) := by rw [IntWalk.i64_in _ (by omega)]; omega
  rw [e9]
  refine ya ?_
  refine rs (ym ?_)
  refine ym ?_
  refine Y1 (Yv.remN rfl eV eV (fun hg => by omega)) ?_
  refine ya ?_
  refine AW.ret (retI (.tmp rfl .nil) ?_)
  unfold pickF; rw [if_pos h0t]; rfl
 try replace h0f := odf h0f
 refine AW.skip ?_
 refine rs (ym ?_)
 refine ym ?_
 refine Y1 (Yv.remN rfl eV eV (fun hg => by omega)) ?_
 refine ya ?_
 refine AW.ret (retI (.tmp rfl .nil) ?_)
 unfold pickF; rw [if_neg h0f]; rfl

theorem toSP (c : Pc) (g cc : Nat) (a : FA) (l : List Pg) {L : Lay} {x : Fr} {ws : V.WS} {mem : Mf} {w : V.PW} : (SPn L c x g cc a l ++ V.WSt L.wb L.wm ws).Perm (SP L ⟨c, x, [], mem, w⟩ ⟨g, cc, a, [], l, ws⟩) := by
 unfold SPn SP memW
 show ((p6 L c x g cc a [] ++ (memE 114 L.pg l ++ labE L c.prog)) ++ V.WSt L.wb L.wm ws).Perm (p6 L c x g cc a [] ++ ((memE 114 L.pg l ++ V.WSt L.wb L.wm ws) ++ labE L c.prog))
 rw [List.append_assoc, List.append_assoc, List.append_assoc]
 exact ((List.perm_append_comm (l₁ := labE L c.prog) (l₂ := V.WSt L.wb L.wm ws)).append_left _).append_left _
theorem pB6 {B X Y : St} : (B ++ (X ++ Y)).Perm (Y ++ (B ++ X)) := by
 rw [← List.append_assoc]
 exact List.perm_append_comm
theorem pB7 {B X Y N P : St} (h : (N ++ X).Perm P) : (B ++ (P ++ Y)).Perm (N ++ (B ++ (X ++ Y))) := by
 refine List.Perm.trans ?_ (List.perm_append_comm_assoc B N (X ++ Y))
 refine List.Perm.append_left B ?_
 rw [← List.append_assoc]
 exact h.symm.append_right Y
theorem pB8 {X N P Q : St} (h : (N ++ X).Perm Q) : (P ++ Q).Perm (N ++ (P ++ X)) := (h.symm.append_left P).trans (List.perm_append_comm_assoc P N X)
theorem new_heap (p : Prog) (st : Bool) (w : V.PW) : (newM p 65536#64 st w).c.heap.toNat ≤ 268435456 := by
 show (65536#64 : Wd64).toNat ≤ 268435456
 decide
end Go.Proofs.Ytlfklgganokgdaa

namespace Go.Proofs.Ytlfklgganokgdaa
open Go Go.RowKit
section
variable {RF : Int → Wd64 → Wd64 → Wd64} {p : Prog} {m q : Mc} {x : Fr}
def AtF (p : Prog) (x : Fr) (s : List Bool) : Prop :=
 ∃ Y a, Sol (fnOf p x) (fnOf p x).regs.toNat ((fnOf p x).regs.toNat + (fnOf p x).slots.toNat) Y ∧ ReadsOk (fnOf p x) (fnOf p x).regs.toNat Y ∧ famAt Y x.at_.toNat = some a ∧ leB a s
def InvT (p : Prog) (x : Fr) : Prop := AtF p x (x.set ++ x.there)
def InvL (p : Prog) : Int → List Fr → Prop
 | _, [] => True
 | d, y :: r => AtF p y (y.set.set d.toNat true ++ y.there) ∧ InvL p y.d r
def InvS (p : Prog) (m : Mc) : Prop := m.c.strict = true ∧ InvT p m.x ∧ InvL p m.x.d m.bl
theorem AtF.next {s : List Bool} (h : AtF p x s) (hx : FrIn p x) (hs : s.length = (fnOf p x).regs.toNat + (fnOf p x).slots.toNat) {j : Int} (hj : j ∈ nextF (whL (fnOf p x).code) (insOf p x) x.at_.toNat) : AtF p { x with at_ := j } (behindF (fnOf p x).regs.toNat (insOf p x) s) := by
 obtain ⟨Y, a, h1, h2, h3, h4⟩ := h
 have h5 := h1.step x.at_.toNat a hx.a1 h3 j hj
 have hal := h1.bits _ _ h3
 have h6 : leB (behindF (fnOf p x).regs.toNat (insOf p x) a) (behindF (fnOf p x).regs.toNat (insOf p x) s) := behind_mono h4 (by omega) (by omega)
 cases hb : famAt Y j.toNat with
 | none => rw [hb] at h5; exact h5.elim
 | some b =>
  rw [hb] at h5
  exact ⟨Y, b, h1, h2, hb, leB.trans h5 h6⟩
theorem bits_len (hx : FrIn p x) : (x.set ++ x.there).length = (fnOf p x).regs.toNat + (fnOf p x).slots.toNat := by
 rw [List.length_append, hx.ok.t, hx.ok.h, hx.nr, hx.ns]
theorem set_len (hx : FrIn p x) : x.set.length = (fnOf p x).regs.toNat := by rw [hx.ok.t, hx.nr]
theorem beh_0 {R : Nat} {i : Ins} {s : List Bool} (h22 : ¬ (i.kind = 22 ∨ i.kind = 23)) (h32 : ¬ i.kind = 32) (hd : (hasF i.kind).d = false) : behindF R i s = s := by
 unfold behindF bh2 bh1
 rw [if_neg h32, if_neg (by rw [hd]; decide), if_neg h22]
theorem beh_d {R : Nat} {i : Ins} {s : List Bool} (h22 : ¬ (i.kind = 22 ∨ i.kind = 23)) (h32 : ¬ i.kind = 32) (hd : (hasF i.kind).d = true) : behindF R i s = s.set i.d.toNat true := by
 unfold behindF bh2 bh1
 rw [if_neg h32, if_pos hd, if_neg h22]
theorem beh_put {R : Nat} {i : Ins} {s : List Bool} (h32 : i.kind = 32) : behindF R i s = s.set (R + i.imm.toNat) true := by
 unfold behindF bh2 bh1
 rw [if_pos h32, if_neg (by rw [h32]; decide), if_neg (by omega)]
theorem beh_call {R : Nat} {i : Ins} {s t : List Bool} (h22 : i.kind = 22 ∨ i.kind = 23) (hs : s.length = R) (hd : i.d.toNat < R) : behindF R i (s ++ t) = (List.replicate R false).set i.d.toNat true ++ t := by
 have hdd : (hasF i.kind).d = true := by rcases h22 with h | h <;> rw [h] <;> rfl
 unfold behindF bh2 bh1
 rw [if_neg (by omega), if_pos hdd, if_pos h22, ← hs, List.drop_left, List.set_append_left _ _ (by rw [List.length_replicate]; omega)]
theorem next_more (hp : ProgOk p) (hx : FrIn p x) (hk : endsF (insOf p x).kind = false) : x.at_ + 1 ∈ nextF (whL (fnOf p x).code) (insOf p x) x.at_.toNat := by
 unfold nextF
 rw [if_neg (by rw [hk]; decide)]
 refine List.mem_append_right _ (List.mem_singleton.2 ?_)
 have := hx.a0
 omega
theorem InvT.go (hp : ProgOk p) (hx : FrIn p x) (h : InvT p x) (h22 : ¬ ((insOf p x).kind = 22 ∨ (insOf p x).kind = 23)) (h32 : ¬ (insOf p x).kind = 32) (hd : (hasF (insOf p x).kind).d = false) (hk : endsF (insOf p x).kind = false) : InvT p (goF x) := by
 have h1 := AtF.next h hx (bits_len hx) (next_more hp hx hk)
 rw [beh_0 h22 h32 hd] at h1
 exact h1
theorem InvT.goD (hp : ProgOk p) (hx : FrIn p x) (h : InvT p x) (h22 : ¬ ((insOf p x).kind = 22 ∨ (insOf p x).kind = 23)) (h32 : ¬ (insOf p x).kind = 32) (hd : (hasF (insOf p x).kind).d = true) (hk : endsF (insOf p x).kind = false) (v : Wd64) : InvT p (goF (setD x (insOf p x).d v)) := by
 have h1 := AtF.next h hx (bits_len hx) (next_more hp hx hk)
 have io := (hx.ins hp).d hd
 rw [beh_d h22 h32 hd, List.set_append_left _ _ (by rw [set_len hx]; omega)] at h1
 exact h1
theorem InvT.goP (hp : ProgOk p) (hx : FrIn p x) (h : InvT p x) (h32 : (insOf p x).kind = 32) (hk : endsF (insOf p x).kind = false) : InvT p (goF (putF x (insOf p x))) := by
 have h1 := AtF.next h hx (bits_len hx) (next_more hp hx hk)
 rw [beh_put h32, List.set_append_right _ _ (by rw [set_len hx]; omega), set_len hx, Nat.add_sub_cancel_left] at h1
 exact h1
theorem InvT.jump (hp : ProgOk p) (hx : FrIn p x) (h : InvT p x) (hk : (insOf p x).kind = 20 ∨ (insOf p x).kind = 21) : InvT p (jmpF p x (insOf p x)) := by
 have hd : (hasF (insOf p x).kind).d = false := by rcases hk with h | h <;> rw [h] <;> rfl
 have h1 : ∀ j, j ∈ nextF (whL (fnOf p x).code) (insOf p x) x.at_.toNat → InvT p { x with at_ := j } := fun j hj => by
  have h1 := AtF.next h hx (bits_len hx) hj
  rw [beh_0 (by omega) (by omega) hd] at h1
  exact h1
 unfold jmpF
 split
 ·refine h1 _ ?_
  unfold nextF
  rw [nx1_t hk]
  exact List.mem_append_left _ (List.mem_singleton.2 rfl)
 rename_i hj
 have h20 : ¬ (insOf p x).kind = 20 := fun e => hj (.inl e)
 exact h1 _ (next_more hp hx (not_ends (by omega)))
theorem inv_adv (hp : ProgOk p) : ∀ (n : Nat) (x : Fr), FrIn p x → InvT p x → (fnOf p x).code.length - x.at_.toNat ≤ n → InvT p (advF p x)
 | 0, x, hx, h, hn => by have := hx.a1; omega
 | n + 1, x, hx, h, hn => by
  by_cases hk : (insOf p x).kind = 19
  ·rw [← adv_label hp hx hk]
   have h0 := hx.a0
   refine inv_adv hp n (goF x) (hx.go hp (by rw [hk]; rfl)) (h.go hp hx (by omega) (by omega) (by rw [hk]; rfl) (by rw [hk]; rfl)) ?_
   show (fnOf p x).code.length - (x.at_ + 1).toNat ≤ n
   omega
  ·rw [adv_not hp hx hk]
   exact h
theorem inv_new (hp : ProgOk p) {f : Nat} (hf : f < p.funs.length) (hs : StrictF (p.funs.getD f default)) {args : List Wd64} (ha : (args.length : Int) = (p.funs.getD f default).params) (d : Int) : InvT p (openFr (p.funs.getD f default) f args d) := by
 obtain ⟨Y, h1, h2⟩ := hs
 obtain ⟨a, h3, h4⟩ := h1.first
 have hfn := hp.fn _ (getD_mem hf)
 have := hfn.par0
 have := hfn.par2
 refine ⟨Y, a, h1, h2, h3, ?_⟩
 have e : (openFr (p.funs.getD f default) f args d).set ++ (openFr (p.funs.getD f default) f args d).there = firstF (p.funs.getD f default).regs.toNat ((p.funs.getD f default).regs.toNat + (p.funs.getD f default).slots.toNat) (p.funs.getD f default).params.toNat := by
  show sJ (p.funs.getD f default).regs.toNat args.length ++ List.replicate (p.funs.getD f default).slots.toNat false = _
  unfold sJ firstF
  rw [List.append_assoc, List.replicate_append_replicate, show (p.funs.getD f default).params.toNat = args.length by omega, show (p.funs.getD f default).regs.toNat - args.length + (p.funs.getD f default).slots.toNat = (p.funs.getD f default).regs.toNat + (p.funs.getD f default).slots.toNat - args.length by omega]
 rw [e]
 exact h4
theorem inv_set (hp : ProgOk p) (hx : FrIn p x) (h : InvT p x) : okS x.set (readsF (insOf p x)) = true := by
 obtain ⟨Y, a, h1, h2, h3, h4⟩ := h
 have h5 := h2 x.at_.toNat a hx.a1 h3
 unfold readOkB at h5
 rw [Bool.and_eq_true, List.all_eq_true] at h5
 unfold okS
 rw [List.all_eq_true]
 intro r hr
 have hr2 := reads_in (hx.ins hp) r hr
 have h6 := h4 r.toNat (h5.1 r hr)
 have hl := set_len hx
 rw [List.getD_eq_getElem?_getD, List.getElem?_append_left (by omega), ← List.getD_eq_getElem?_getD] at h6
 exact h6
theorem callee_par (hp : ProgOk p) (hpf : p.funs.length ≤ 1048576) (hx : FrIn p x) (hk : (insOf p x).kind = 22 ∨ (insOf p x).kind = 23 ∨ (insOf p x).kind = 24 ∨ (insOf p x).kind = 25) {f : Nat} (hf : calleeF p x (insOf p x) = some f) : f < p.funs.length ∧ ((argsF x (insOf p x)).length : Int) = (p.funs.getD f default).params := by
 have io := hx.ins hp
 have hargs : (hasF (insOf p x).kind).args = true := by rcases hk with h | h | h | h <;> rw [h] <;> rfl
 unfold argsF
 rw [List.length_map]
 unfold calleeF at hf
 split at hf
 ·split at hf
  ·cases hf
  rename_i hb
  cases hf
  have hb' : badTo p x (insOf p x) = false := by simpa using hb
  unfold badTo at hb'
  simp only [Bool.or_eq_false_iff, decide_eq_false_iff_not, Bool.not_eq_false', decide_eq_true_eq] at hb'
  have h1 : toN x (insOf p x) < wI (p.funs.length : Int) := BitVec.not_le.1 hb'.1.2
  rw [BitVec.lt_def] at h1
  have h2 := wI_nat (p.funs.length : Int)
  rw [wrap_u64] at h2
  exact ⟨by omega, by have := hb'.2; omega⟩
 rename_i hb
 cases hf
 have hf' : (hasF (insOf p x).kind).f = true := by
  rcases hk with h | h | h | h
  ·rw [h]; rfl
  ·exact absurd (.inl h) hb
  ·rw [h]; rfl
  ·exact absurd (.inr h) hb
 have h1 := io.fn hf'
 have h2 := io.par hargs hf'
 unfold parF at h2
 exact ⟨h1.2, h2⟩
theorem stepA_frame' {heap : Wd64} {y : Fr} {i : Ins} (h : stepA RF heap x i = some y) : (i.kind = 32 ∧ y = goF (putF x i)) ∨ (i.kind ≠ 32 ∧ y = goF (setD x i.d (valueF RF heap x i).1)) := by
 unfold stepA at h
 split at h
 ·cases h
 split at h
 ·rename_i hk
  cases h
  exact .inl ⟨hk, rfl⟩
 rename_i hk
 split at h
 ·cases h
  exact .inr ⟨hk, rfl⟩
 cases h
theorem strict_keep (hp : ProgOk p) (hpf : p.funs.length ≤ 1048576) (hs : ∀ f ∈ p.funs, StrictF f) : Keep RF p (InvS p) where
 adv := fun m hm ⟨h1, h2, h3⟩ => ⟨h1, by
  show InvT p (advF m.c.prog m.x)
  rw [hm.prog]
  exact inv_adv hp _ m.x hm.top h2 (Nat.le_refl _), h3⟩
 set := fun m hm ⟨h1, h2, h3⟩ => inv_set hp hm.top h2
 step := fun m q hm ⟨h1, h2, h3⟩ h19 h => by
  have hpr := hm.prog
  have hx := hm.top
  unfold stepM at h
  split at h
  ·cases h
  split at h
  ·rename_i hk
   cases h
   refine ⟨h1, ?_, h3⟩
   show InvT p (jmpF m.c.prog m.x (insOf p m.x))
   rw [hpr]; exact h2.jump hp hx hk
  split at h
  ·cases h
   unfold backM
   split
   ·exact ⟨(backC_prog m.c _).2.2.1.trans h1, h2, by
     rename_i hb
     show InvL p m.x.d m.bl
     rw [hb]; trivial⟩
   ·rename_i y r hb
    rw [hb] at h3
    exact ⟨h1, h3.1, h3.2⟩
  split at h
  ·rename_i hk
   unfold jumpM at h
   cases hc : calleeF m.c.prog m.x (insOf p m.x) with
   | none => rw [hc] at h; cases h
   | some f =>
    rw [hc] at h
    dsimp only at h
    rw [hpr] at hc h
    obtain ⟨hf, ha⟩ := callee_par hp hpf hx hk hc
    have hnew := inv_new hp hf (hs _ (getD_mem hf)) ha
    split at h
    ·cases h
     exact ⟨h1, hnew _, h3⟩
    ·rename_i h24
     split at h
     ·cases h
     ·cases h
      have hk2 : (insOf p m.x).kind = 22 ∨ (insOf p m.x).kind = 23 := by omega
      have hd := (hx.ins hp).d (by rcases hk2 with h | h <;> rw [h] <;> rfl)
      have h4 := AtF.next h2 hx (bits_len hx) (next_more hp hx (not_ends (by omega)))
      rw [beh_call hk2 (set_len hx) (by omega)] at h4
      refine ⟨h1, hnew _, ?_, h3⟩
      show AtF p (callF m.c.strict m.x) ((if m.c.strict = true then List.replicate m.x.nr false else m.x.set).set (insOf p m.x).d.toNat true ++ m.x.there)
      rw [if_pos h1, hx.nr]
      exact h4
  split at h
  ·rename_i hk
   split at h
   ·cases h
    exact ⟨h1, h2.go hp hx (by omega) (by omega) (by rw [hk]; rfl) (by rw [hk]; rfl), h3⟩
   ·cases h
  split at h
  ·rename_i hk
   split at h
   ·cases h
    exact ⟨h1, h2.goD hp hx (by omega) (by omega) (by rw [hk]; rfl) (by rw [hk]; rfl) _, h3⟩
   ·cases h
  split at h
  ·rename_i hk
   unfold sysM at h
   split at h
   ·cases h
    exact ⟨h1, h2, h3⟩
   ·cases hr : sysR m (insOf p m.x) with
    | none => rw [hr] at h; cases h
    | some r =>
     rw [hr] at h
     cases h
     exact ⟨h1, h2.goD hp hx (by omega) (by omega) (by rw [hk]; rfl) (by rw [hk]; rfl) _, h3⟩
  ·rename_i k1 k2 k3 k4 k5 k6
   cases hA : stepA RF m.c.heap m.x (insOf p m.x) with
   | none => rw [hA] at h; cases h
   | some x' =>
    rw [hA] at h
    cases h
    have hi := (hx.ins hp).is
    by_cases h32 : (insOf p m.x).kind = 32
    ·rcases stepA_frame' hA with ⟨_, rfl⟩ | ⟨h, _⟩
     ·exact ⟨h1, h2.goP hp hx h32 (by rw [h32]; rfl), h3⟩
     ·exact absurd h32 h
    ·rcases stepA_frame' hA with ⟨h, _⟩ | ⟨_, rfl⟩
     ·exact absurd h h32
     ·exact ⟨h1, h2.goD hp hx (by omega) h32 (has_d (by have := isF_in hi; unfold valK; omega)) (not_ends (by omega)) _, h3⟩
end
end Go.Proofs.Ytlfklgganokgdaa

namespace Go.Proofs.Ytlfklgganokgdaa
open Go Go.RowKit

theorem strict_no {p : Prog} (h : ¬ StrictP p) : strictP p = false := @decide_eq_false _ (Classical.propDecidable _) h
theorem sim_new (p : Prog) (h : Wd64) (w : V.PW) : SimM (newM p h true w) (newM p h false w) := ⟨⟨⟨false, rfl, fun e => by cases e⟩⟩, SimF.refl _, trivial, rfl, rfl⟩
theorem inv_start {p : Prog} (hok : ProgOk p) (hs : StrictP p) (h : Wd64) (w : V.PW) : InvS p (newM p h true w) :=
 ⟨rfl, inv_new hok (f := 0) hok.some (hs.2 _ (getD_mem hok.some)) (args := []) (by rw [hok.first]; rfl) 0, trivial⟩
theorem pB9 {B X N P Q : St} (h : (N ++ X).Perm Q) : (P ++ (B ++ Q)).Perm (N ++ (B ++ (P ++ X))) := by
 refine List.Perm.trans ?_ (List.perm_append_comm_assoc B N (P ++ X))
 refine (List.perm_append_comm_assoc P B Q).trans ?_
 exact (pB8 h).append_left B
set_option maxHeartbeats 16000000 in
theorem WordStrictly4 (p : Prog) (hp : ProgIn p) (xs : List UInt8) (xf : V.Fl) (hxs : xs.length ≤ 1048576) (hxl : xf.length ≤ 1048576) (hxd : ∀ x ∈ xf, x.2.length ≤ 1048576) (z : Int) (hz0 : -9223372036854775808 ≤ z) (hz1 : z ≤ 9223372036854775807) :
    ACalls Try.prog 4 [.agg (progCells p), V.worldT xs xf, zi z] [] (fun t S => t = bv true) := by
 refine ACalls.intro Try.func4 rfl Try.ntmps4 nB rfl fun X w0 => ?_
 refine rs ?_
 refine AWL.boxOp rfl rfl (B rfl) rfl (E rfl rfl) rfl (fun b3 => ?_)
 refine AWL.boxOp rfl rfl (B rfl) rfl (E rfl rfl) rfl (fun b4 => ?_)
 refine ya ?_
 refine AW.seq ?_
 refine rs ?_
 refine AWL.callP rfl rfl (B rfl) rfl ce_11 (E rfl rfl) evs0 (known11) (fun t S h => h) ?_
 refine Y1 (Yv.not rfl eV) (nl ?_)
 refine AW.cond rfl (fun h0t => ?_) (fun h0f => ?_)
 ·try replace h0t := odt h0t
  exfalso; simp at h0t
 try replace h0f := odf h0f
 refine AW.skip ?_
 refine AW.seq ?_
 refine rs (Y1 (Yv.loadBoxA rfl ag_25 (i := 0) rfl eV rfl rfl) ?_)
 refine AWL.callP rfl rfl (B rfl) rfl ce_6 (E rfl rfl) (evsC (E rfl rfl) evs0) (Check6 p hp) (fun t S h => h) ?_
 refine Y1 (Yv.neq rfl eV eV) ?_
 refine ym ?_
 refine gF (Yv.loadBoxA rfl ag_25 (i := 0) rfl eV rfl rfl) ?_
 refine AWL.callPgF rfl rfl rfl rfl (B rfl) rfl ce_8 (E rfl rfl) (evsC (Eg rfl rfl id) evs0) (fun hg => size8 p hp) (fun t S h => h) ?_
 refine gF (Yv.gtr rfl (Eg rfl rfl id) eV) ?_
 refine Y1 (Yv.pickOr (t := .const (.bool true)) rfl eV (Eg rfl rfl id)) (nl ?_)
 refine AW.cond rfl (fun h1t => ?_) (fun h1f => ?_)
 ·try replace h1t := odt h1t
  refine ra ?_
  refine AW.ret (retI (.tmp rfl .nil) ?_)
  rfl
 try replace h1f := odf h1f
 have hck : checkW p = 0 := by
  have h := h1f
  rw [Bool.or_eq_false_iff] at h
  simpa using h.1
 have hok := check_good ((check_eq p).symm.trans hck)
 refine AW.skip ?_
 refine rs (Y1 (Yv.loadBoxA rfl ag_33 (i := 1) rfl eV rfl rfl) ?_)
 refine C1 rfl ce_12 (E rfl rfl) (evsC (E rfl rfl) evs0) (S1 := []) (S2 := _) rfl (V.New9 xs xf (by omega) (by omega) (fun x hx => by have := hxd x hx; omega)) ?_
 rintro t27 S27 ⟨b1, m1, fl1, rfl, rfl, hf1⟩
 refine ya ?_
 refine AW.perm (S' := [Ent.box b3 25 (progCells p), Ent.box b4 33 [sv xs, .sl 2 (xf.flatMap V.fCells)]] ++ (V.WSt b1 m1 ⟨fl1, xs, V.opn0, [], none, 0⟩)) List.perm_append_comm ?_
 refine rs (Y1 (Yv.loadBoxA rfl ag_33 (i := 1) rfl eV rfl rfl) ?_)
 refine C1 rfl ce_12 (E rfl rfl) (evsC (E rfl rfl) evs0) (S1 := []) (S2 := _) rfl (V.New9 xs xf (by omega) (by omega) (fun x hx => by have := hxd x hx; omega)) ?_
 rintro t29 S29 ⟨b2, m2, fl2, rfl, rfl, hf2⟩
 refine ya ?_
 refine AW.perm (S' := [Ent.box b3 25 (progCells p), Ent.box b4 33 [sv xs, .sl 2 (xf.flatMap V.fCells)]] ++ ((V.WSt b1 m1 ⟨fl1, xs, V.opn0, [], none, 0⟩) ++ (V.WSt b2 m2 ⟨fl2, xs, V.opn0, [], none, 0⟩))) pB6 ?_
 refine rs (Y1 (Yv.loadBoxA rfl ag_25 (i := 0) rfl eV rfl rfl) ?_)
 refine ym ?_
 refine C1 rfl ce_13 (E rfl rfl) (evsC (E rfl rfl) (evsC (E rfl rfl) (evsC (E rfl rfl) (evsC (E rfl rfl) evs0)))) (S1 := []) (S2 := _) rfl (New13 p 65536#64 true b1 hp hok hck (by decide) (by decide)) ?_
 rintro t33 S33 ⟨s1, pg1, gl1, lc1, bs1, g1, c1, a1, l1, rfl, hbs1, hpg1, hgm1, rfl⟩
 refine ym ?_
 refine Y1 (Yv.extract rfl eV rfl) ?_
 refine Y1 (Yv.extract rfl eV rfl) ?_
 refine Y1 (Yv.assign rfl eV) ?_
 refine ya ?_
 refine AW.perm (S' := [Ent.box b3 25 (progCells p), Ent.box b4 33 [sv xs, .sl 2 (xf.flatMap V.fCells)]] ++ ((SP (Lay.mk s1 gl1 lc1 pg1 b1 m1 bs1) (newM p 65536#64 true (V.newW xs xf)) (Qp.mk g1 c1 a1 [] l1 ⟨fl1, xs, V.opn0, [], none, 0⟩)) ++ (V.WSt b2 m2 ⟨fl2, xs, V.opn0, [], none, 0⟩))) (pB7 (toSP _ _ _ _ _ (L := (Lay.mk s1 gl1 lc1 pg1 b1 m1 bs1)) (ws := ⟨fl1, xs, V.opn0, [], none, 0⟩))) ?_
 refine rs (Y1 (Yv.loadBoxA rfl ag_25 (i := 0) rfl eV rfl rfl) ?_)
 refine ym ?_
 refine C1 rfl ce_13 (E rfl rfl) (evsC (E rfl rfl) (evsC (E rfl rfl) (evsC (E rfl rfl) (evsC (E rfl rfl) evs0)))) (S1 := []) (S2 := _) rfl (New13 p 65536#64 false b2 hp hok hck (by decide) (by decide)) ?_
 rintro t39 S39 ⟨s2, pg2, gl2, lc2, bs2, g2, c2, a2, l2, rfl, hbs2, hpg2, hgm2, rfl⟩
 refine ym ?_
 refine Y1 (Yv.extract rfl eV rfl) ?_
 refine Y1 (Yv.extract rfl eV rfl) ?_
 refine Y1 (Yv.assign rfl eV) ?_
 refine ya ?_
 refine AW.drop (S' := SPn (Lay.mk s2 gl2 lc2 pg2 b2 m2 bs2) (newC p 65536#64 false) (newX p) g2 c2 a2 l2 ++ ([Ent.box b3 25 (progCells p)] ++ ((SP (Lay.mk s1 gl1 lc1 pg1 b1 m1 bs1) (newM p 65536#64 true (V.newW xs xf)) (Qp.mk g1 c1 a1 [] l1 ⟨fl1, xs, V.opn0, [], none, 0⟩)) ++ (V.WSt b2 m2 ⟨fl2, xs, V.opn0, [], none, 0⟩)))) (((List.sublist_cons_self _ _).cons_cons _).append_left _) ?_
 refine AW.perm (S' := (SP (Lay.mk s1 gl1 lc1 pg1 b1 m1 bs1) (newM p 65536#64 true (V.newW xs xf)) (Qp.mk g1 c1 a1 [] l1 ⟨fl1, xs, V.opn0, [], none, 0⟩)) ++ ([Ent.box b3 25 (progCells p)] ++ (SP (Lay.mk s2 gl2 lc2 pg2 b2 m2 bs2) (newM p 65536#64 false (V.newW xs xf)) (Qp.mk g2 c2 a2 [] l2 ⟨fl2, xs, V.opn0, [], none, 0⟩)))) (pB9 (toSP _ _ _ _ _ (L := (Lay.mk s2 gl2 lc2 pg2 b2 m2 bs2)) (ws := ⟨fl2, xs, V.opn0, [], none, 0⟩))) ?_
 have hq1 : Rel (newM p 65536#64 true (V.newW xs xf)) (Qp.mk g1 c1 a1 [] l1 ⟨fl1, xs, V.opn0, [], none, 0⟩) := ⟨rfl, hpg1, hgm1, V.abs_new hf1⟩
 have hq2 : Rel (newM p 65536#64 false (V.newW xs xf)) (Qp.mk g2 c2 a2 [] l2 ⟨fl2, xs, V.opn0, [], none, 0⟩) := ⟨rfl, hpg2, hgm2, V.abs_new hf2⟩
 have hpk := pick_in z (n := 300) (by decide)
 have hw0 : V.RP 1048576 (newM p 65536#64 false (V.newW xs xf)).w := V.rp_new hxs hxl hxd
 have hw1 : V.RP 1048576 (newM p 65536#64 true (V.newW xs xf)).w := V.rp_new hxs hxl hxd
 have hwa := run_w (RF := realF) hok hp.data hp.funs (pickF z 300).toNat (newM_ok hok 65536#64 true (V.newW xs xf)) (new_heap _ _ _) hw1
 have hwb := run_w (RF := realF) hok hp.data hp.funs (pickF z 300).toNat (newM_ok hok 65536#64 false (V.newW xs xf)) (new_heap _ _ _) hw0
 have hsm := run_sim (RF := realF) hok hp.funs (pickF z 300).toNat (newM_ok hok 65536#64 true (V.newW xs xf)) (newM_ok hok 65536#64 false (V.newW xs xf)) (sim_new p 65536#64 (V.newW xs xf))
 refine AW.seq ?_
 refine rs (ym ?_)
 refine Y1 (Yv.neq rfl eV eV) ?_
 refine ym ?_
 refine gF (Yv.move rfl eV) ?_
 refine gF (Yv.neq rfl (Eg rfl rfl id) eV) ?_
 refine Y1 (Yv.pickOr (t := .const (.bool true)) rfl eV (Eg rfl rfl id)) ?_
 refine ym ?_
 refine gF (Yv.move rfl eV) ?_
 refine gF (Yv.eqlNilP rfl pn_36 (Eg rfl rfl id)) ?_
 refine Y1 (Yv.pickOr (t := .const (.bool true)) rfl eV (Eg rfl rfl id)) ?_
 refine ym ?_
 refine gF (Yv.move rfl eV) ?_
 refine gF (Yv.eqlNilP rfl pn_36 (Eg rfl rfl id)) ?_
 refine Y1 (Yv.pickOr (t := .const (.bool true)) rfl eV (Eg rfl rfl id)) (nl ?_)
 refine AW.cond rfl (fun h2t => ?_) (fun h2f => ?_)
 ·try replace h2t := odt h2t
  exfalso; simp at h2t
 try replace h2f := odf h2f
 refine AW.skip ?_
 refine rs (ym ?_)
 refine AWL.callP rfl rfl (B rfl) rfl ce_14 (E rfl rfl) (evsC (E rfl rfl) (evsC (E rfl rfl) evs0)) (pick14 z 300 hz0 hz1 (by decide)) (fun t S h => h) ?_
 refine ya ?_
 refine rs (ym ?_)
 refine ym ?_
 refine C1 rfl ce_15 (E rfl rfl) (evsC (E rfl rfl) (evsC (E rfl rfl) evs0)) (S1 := (SP (Lay.mk s1 gl1 lc1 pg1 b1 m1 bs1) (newM p 65536#64 true (V.newW xs xf)) (Qp.mk g1 c1 a1 [] l1 ⟨fl1, xs, V.opn0, [], none, 0⟩))) (S2 := _) rfl (Run15 realF (fun k a b h0 h1 => real72 k a b h0 h1) (Lay.mk s1 gl1 lc1 pg1 b1 m1 bs1) p hok hp hbs1 (newM p 65536#64 true (V.newW xs xf)) (Qp.mk g1 c1 a1 [] l1 ⟨fl1, xs, V.opn0, [], none, 0⟩) (pickF z 300) (1048576) (newM_ok hok _ _ _) hq1 (new_heap _ _ _) hw1 (by omega) ⟨Int.le_refl _, (by show (0 : Int) ≤ 4611686018427387904; decide)⟩ (by omega)) ?_
 rintro t60 S60 ⟨q3, rfl, hq3, rfl⟩
 refine ya ?_
 refine AW.perm (S' := [Ent.box b3 25 (progCells p)] ++ ((SP (Lay.mk s1 gl1 lc1 pg1 b1 m1 bs1) (runM realF (pickF z 300).toNat (newM p 65536#64 true (V.newW xs xf))) q3) ++ (SP (Lay.mk s2 gl2 lc2 pg2 b2 m2 bs2) (newM p 65536#64 false (V.newW xs xf)) (Qp.mk g2 c2 a2 [] l2 ⟨fl2, xs, V.opn0, [], none, 0⟩)))) (List.perm_append_comm_assoc _ _ _) ?_
 refine rs (ym ?_)
 refine ym ?_
 refine AWL.callE rfl rfl (B rfl) rfl ce_15 (E rfl rfl) (evsC (E rfl rfl) (evsC (E rfl rfl) evs0)) (F1 := ([Ent.box b3 25 (progCells p)] ++ (SP (Lay.mk s1 gl1 lc1 pg1 b1 m1 bs1) (runM realF (pickF z 300).toNat (newM p 65536#64 true (V.newW xs xf))) q3))) (S1 := (SP (Lay.mk s2 gl2 lc2 pg2 b2 m2 bs2) (newM p 65536#64 false (V.newW xs xf)) (Qp.mk g2 c2 a2 [] l2 ⟨fl2, xs, V.opn0, [], none, 0⟩))) rfl (Run15 realF (fun k a b h0 h1 => real72 k a b h0 h1) (Lay.mk s2 gl2 lc2 pg2 b2 m2 bs2) p hok hp hbs2 (newM p 65536#64 false (V.newW xs xf)) (Qp.mk g2 c2 a2 [] l2 ⟨fl2, xs, V.opn0, [], none, 0⟩) (pickF z 300) (1048576) (newM_ok hok _ _ _) hq2 (new_heap _ _ _) hw0 (by omega) ⟨Int.le_refl _, (by show (0 : Int) ≤ 4611686018427387904; decide)⟩ (by omega)) ?_
 rintro t63 S63 ⟨q4, rfl, hq4, rfl⟩
 refine ya ?_
 refine AW.seq ?_
 refine rs (ym ?_)
 refine Y1 (Yv.eql rfl eV eV) ?_
 refine ym ?_
 refine gT (Yv.loadBoxA rfl ag_25 (i := 0) rfl eV rfl rfl) ?_
 refine AWL.callPgT rfl rfl rfl rfl (B rfl) rfl ce_9 (E rfl rfl) (evsC (Eg rfl rfl id) evs0) (fun hg => strictA p hp) (fun t S h => h) ?_
 refine gT (Yv.not rfl (Eg rfl rfl id)) ?_
 refine Y1 (Yv.pickAnd rfl eV (Eg rfl rfl id)) (nl ?_)
 refine AW.cond rfl (fun h3t => ?_) (fun h3f => ?_)
 ·try replace h3t := odt h3t
  have hle : (runM realF (pickF z 300).toNat (newM p 65536#64 true (V.newW xs xf))).c.steps ≤ (runM realF (pickF z 300).toNat (newM p 65536#64 false (V.newW xs xf))).c.steps := by
   rcases hsm with h | h
   ·rw [h.same.2.2.1]; exact Int.le_refl _
   ·exact h.2
  refine AW.drop (S' := (SP (Lay.mk s1 gl1 lc1 pg1 b1 m1 bs1) (runM realF (pickF z 300).toNat (newM p 65536#64 true (V.newW xs xf))) q3) ++ (SP (Lay.mk s2 gl2 lc2 pg2 b2 m2 bs2) (runM realF (pickF z 300).toNat (newM p 65536#64 false (V.newW xs xf))) q4)) (List.sublist_cons_self _ _) ?_
  refine rs (ym ?_)
  refine AWL.callK rfl rfl (B rfl) rfl ce_16 (E rfl rfl) (evsC (E rfl rfl) evs0) (S1 := ((SP (Lay.mk s1 gl1 lc1 pg1 b1 m1 bs1) (runM realF (pickF z 300).toNat (newM p 65536#64 true (V.newW xs xf))) q3) ++ (SP (Lay.mk s2 gl2 lc2 pg2 b2 m2 bs2) (runM realF (pickF z 300).toNat (newM p 65536#64 false (V.newW xs xf))) q4))) (S2 := []) (List.append_nil _).symm ((steps_sp (Lay.mk s1 gl1 lc1 pg1 b1 m1 bs1) (runM realF (pickF z 300).toNat (newM p 65536#64 true (V.newW xs xf))) q3).keepR _) (fun t S h => h) ?_
  refine ym ?_
  refine AWL.callK rfl rfl (B rfl) rfl ce_16 (E rfl rfl) (evsC (E rfl rfl) evs0) (S1 := ((SP (Lay.mk s1 gl1 lc1 pg1 b1 m1 bs1) (runM realF (pickF z 300).toNat (newM p 65536#64 true (V.newW xs xf))) q3) ++ (SP (Lay.mk s2 gl2 lc2 pg2 b2 m2 bs2) (runM realF (pickF z 300).toNat (newM p 65536#64 false (V.newW xs xf))) q4))) (S2 := []) (List.append_nil _).symm ((steps_sp (Lay.mk s2 gl2 lc2 pg2 b2 m2 bs2) (runM realF (pickF z 300).toNat (newM p 65536#64 false (V.newW xs xf))) q4).keepL _) (fun t S h => h) ?_
  refine Y1 (Yv.leq rfl eV eV) ?_
  refine ya ?_
  refine AW.ret (retI (.tmp rfl .nil) ?_)
  show T.v (.bool _) = T.v (.bool true)
  rw [decide_eq_true hle]
 try replace h3f := odf h3f
 have hS : SimM (runM realF (pickF z 300).toNat (newM p 65536#64 true (V.newW xs xf))) (runM realF (pickF z 300).toNat (newM p 65536#64 false (V.newW xs xf))) := by
  by_cases hsp : StrictP p
  ·exact run_strict hok hp.funs (strict_keep hok hp.funs hsp.2) _ (newM_ok hok _ _ _) (newM_ok hok _ _ _) (inv_start hok hsp _ _) (sim_new p 65536#64 (V.newW xs xf))
  ·rcases hsm with h | h
   ·exact h
   ·exfalso
    rw [strict_no hsp, h.1] at h3f
    simp at h3f
 have hst := hS.same.1
 have hco := hS.same.2.1
 have hsp := hS.same.2.2.1
 have htw : (runM realF (pickF z 300).toNat (newM p 65536#64 false (V.newW xs xf))).w.trace = (runM realF (pickF z 300).toNat (newM p 65536#64 true (V.newW xs xf))).w.trace := by rw [hS.same.2.2.2.1]
 have hta : (runM realF (pickF z 300).toNat (newM p 65536#64 true (V.newW xs xf))).w.trace.length ≤ 1099511627776 := by have := hwa.pb.tr; omega
 have htb : (runM realF (pickF z 300).toNat (newM p 65536#64 false (V.newW xs xf))).w.trace.length ≤ 1099511627776 := by have := hwb.pb.tr; omega
 refine AW.drop (S' := (SP (Lay.mk s1 gl1 lc1 pg1 b1 m1 bs1) (runM realF (pickF z 300).toNat (newM p 65536#64 true (V.newW xs xf))) q3) ++ (SP (Lay.mk s2 gl2 lc2 pg2 b2 m2 bs2) (runM realF (pickF z 300).toNat (newM p 65536#64 false (V.newW xs xf))) q4)) (List.sublist_cons_self _ _) ?_
 refine AW.skip ?_
 refine rs (ym ?_)
 refine ym ?_
 refine Y1 (Yv.eql rfl eV eV) ?_
 refine ym ?_
 refine AWL.unguard rfl rfl rfl (by first | (simp [hst, hco, hsp]; done) | (simp; omega)) ?_
 refine ym ?_
 refine AWL.unguard rfl rfl rfl (by first | (simp [hst, hco, hsp]; done) | (simp; omega)) ?_
 refine AWL.callK rfl rfl (B rfl) rfl ce_17 (E rfl rfl) (evsC (E rfl rfl) evs0) (S1 := ((SP (Lay.mk s1 gl1 lc1 pg1 b1 m1 bs1) (runM realF (pickF z 300).toNat (newM p 65536#64 true (V.newW xs xf))) q3) ++ (SP (Lay.mk s2 gl2 lc2 pg2 b2 m2 bs2) (runM realF (pickF z 300).toNat (newM p 65536#64 false (V.newW xs xf))) q4))) (S2 := []) (List.append_nil _).symm ((code_sp (Lay.mk s1 gl1 lc1 pg1 b1 m1 bs1) (runM realF (pickF z 300).toNat (newM p 65536#64 true (V.newW xs xf))) q3).keepR _) (fun t S h => h) ?_
 refine AWL.unguard rfl rfl rfl (by first | (simp [hst, hco, hsp]; done) | (simp; omega)) ?_
 refine ym ?_
 refine AWL.unguard rfl rfl rfl (by first | (simp [hst, hco, hsp]; done) | (simp; omega)) ?_
 refine AWL.callK rfl rfl (B rfl) rfl ce_17 (E rfl rfl) (evsC (E rfl rfl) evs0) (S1 := ((SP (Lay.mk s1 gl1 lc1 pg1 b1 m1 bs1) (runM realF (pickF z 300).toNat (newM p 65536#64 true (V.newW xs xf))) q3) ++ (SP (Lay.mk s2 gl2 lc2 pg2 b2 m2 bs2) (runM realF (pickF z 300).toNat (newM p 65536#64 false (V.newW xs xf))) q4))) (S2 := []) (List.append_nil _).symm ((code_sp (Lay.mk s2 gl2 lc2 pg2 b2 m2 bs2) (runM realF (pickF z 300).toNat (newM p 65536#64 false (V.newW xs xf))) q4).keepL _) (fun t S h => h) ?_
 refine AWL.unguard rfl rfl rfl (by first | (simp [hst, hco, hsp]; done) | (simp; omega)) ?_
 refine Y1 (Yv.eql rfl eV eV) ?_
 refine Y1 (Yv.pickAnd rfl eV eV) ?_
 refine ym ?_
 refine AWL.unguard rfl rfl rfl (by first | (simp [hst, hco, hsp]; done) | (simp; omega)) ?_
 refine ym ?_
 refine AWL.unguard rfl rfl rfl (by first | (simp [hst, hco, hsp]; done) | (simp; omega)) ?_
 refine AWL.callK rfl rfl (B rfl) rfl ce_16 (E rfl rfl) (evsC (E rfl rfl) evs0) (S1 := ((SP (Lay.mk s1 gl1 lc1 pg1 b1 m1 bs1) (runM realF (pickF z 300).toNat (newM p 65536#64 true (V.newW xs xf))) q3) ++ (SP (Lay.mk s2 gl2 lc2 pg2 b2 m2 bs2) (runM realF (pickF z 300).toNat (newM p 65536#64 false (V.newW xs xf))) q4))) (S2 := []) (List.append_nil _).symm ((steps_sp (Lay.mk s1 gl1 lc1 pg1 b1 m1 bs1) (runM realF (pickF z 300).toNat (newM p 65536#64 true (V.newW xs xf))) q3).keepR _) (fun t S h => h) ?_
 refine AWL.unguard rfl rfl rfl (by first | (simp [hst, hco, hsp]; done) | (simp; omega)) ?_
 refine ym ?_
 refine AWL.unguard rfl rfl rfl (by first | (simp [hst, hco, hsp]; done) | (simp; omega)) ?_
 refine AWL.callK rfl rfl (B rfl) rfl ce_16 (E rfl rfl) (evsC (E rfl rfl) evs0) (S1 := ((SP (Lay.mk s1 gl1 lc1 pg1 b1 m1 bs1) (runM realF (pickF z 300).toNat (newM p 65536#64 true (V.newW xs xf))) q3) ++ (SP (Lay.mk s2 gl2 lc2 pg2 b2 m2 bs2) (runM realF (pickF z 300).toNat (newM p 65536#64 false (V.newW xs xf))) q4))) (S2 := []) (List.append_nil _).symm ((steps_sp (Lay.mk s2 gl2 lc2 pg2 b2 m2 bs2) (runM realF (pickF z 300).toNat (newM p 65536#64 false (V.newW xs xf))) q4).keepL _) (fun t S h => h) ?_
 refine AWL.unguard rfl rfl rfl (by first | (simp [hst, hco, hsp]; done) | (simp; omega)) ?_
 refine Y1 (Yv.eql rfl eV eV) ?_
 refine Y1 (Yv.pickAnd rfl eV eV) ?_
 refine ym ?_
 refine AWL.unguard rfl rfl rfl (by first | (simp [hst, hco, hsp]; done) | (simp; omega)) ?_
 refine ym ?_
 refine AWL.unguard rfl rfl rfl (by first | (simp [hst, hco, hsp]; done) | (simp; omega)) ?_
 refine AWL.callAll rfl rfl (B rfl) rfl ce_19 (E rfl rfl) (evsC (E rfl rfl) evs0) ((trace_sp (Lay.mk s1 gl1 lc1 pg1 b1 m1 bs1) (runM realF (pickF z 300).toNat (newM p 65536#64 true (V.newW xs xf))) q3 (1048576 + 268435458 * (pickF z 300).toNat) hq3 hwa (by omega)).keepR _) ?_
 rintro t95 S95 ⟨rfl, rfl⟩
 refine AWL.unguard rfl rfl rfl (by first | (simp [hst, hco, hsp]; done) | (simp; omega)) ?_
 refine ym ?_
 refine AWL.unguard rfl rfl rfl (by first | (simp [hst, hco, hsp]; done) | (simp; omega)) ?_
 refine AWL.callAll rfl rfl (B rfl) rfl ce_19 (E rfl rfl) (evsC (E rfl rfl) evs0) ((trace_sp (Lay.mk s2 gl2 lc2 pg2 b2 m2 bs2) (runM realF (pickF z 300).toNat (newM p 65536#64 false (V.newW xs xf))) q4 (1048576 + 268435458 * (pickF z 300).toNat) hq4 hwb (by omega)).keepL _) ?_
 rintro t97 S97 ⟨rfl, rfl⟩
 refine AWL.unguard rfl rfl rfl (by first | (simp [hst, hco, hsp]; done) | (simp; omega)) ?_
 refine AWL.callP rfl rfl (B rfl) rfl ce_18 (E rfl rfl) (evsC (E rfl rfl) (evsC (E rfl rfl) evs0)) (V.Same49T (runM realF (pickF z 300).toNat (newM p 65536#64 true (V.newW xs xf))).w.trace (runM realF (pickF z 300).toNat (newM p 65536#64 false (V.newW xs xf))).w.trace hta htb) (fun t S h => h) ?_
 refine Y1 (Yv.pickAnd rfl eV eV) ?_
 refine ya ?_
 refine AW.ret (retI (.tmp rfl .nil) ?_)
 show T.v (.bool _) = T.v (.bool true)
 simp [hst, hco, hsp, htw]

end Go.Proofs.Ytlfklgganokgdaa

namespace Go.Proofs.Ytlfklgganokgdaa
open Go.ChangeShapes Go.WideShapes Go.ChangeAt Go Go.RowKit
theorem bulk_one {H : Type} (d : DataW H) : 1 ≤ Rows.uptoBulk d := by
 cases d with
 | lit l => cases l <;> simp [Rows.uptoBulk]
 | _ => simp [Rows.uptoBulk]
theorem bulk_append {H : Type} (l r : List (DataW H)) : Rows.uptoBulkAll (l ++ r) = Rows.uptoBulkAll l + Rows.uptoBulkAll r := by
 induction l with
 | nil => simp [Rows.uptoBulkAll]
 | cons x s ih => simp only [Rows.uptoBulkAll, List.cons_append, ih]; omega
theorem bound {H : Type} {l : List (DataW H)} (hk : Rows.uptoSmall H l = true) : Rows.uptoBulkAll l ≤ 1048576 := by
 simpa [Rows.uptoSmall] using hk
theorem cell_lt {w : World} {a : Addr} {v : Value} (h : w.cell? a = some v) : a.block < w.heap.size := by
 rcases Nat.lt_or_ge a.block w.heap.size with hn | hn
 ·exact hn
 simp [World.cell?, Array.getElem?_eq_none hn] at h
structure Opens (P : Program) (t : TypeId) {X : Type} (k : Nat) (cells : X → List T) (bulk : X → Nat) (ok : X → Prop) : Prop where
 size : P.cellsOf t = k
 one : ∀ {H : Type} {enc : TypeId × Value → H} {w : World} {base : Nat} {spare : Nat → Bool} {held : Bool} {fuel : Nat} {cs : List Value} {x : DataW H × List MemPlace},
  DataW.trod enc P w base spare held fuel t cs = some x → ∃ a, ok a ∧ VReps w [] (cells a) cs ∧ cs.length = k ∧ bulk a ≤ Rows.uptoBulk x.1
theorem Opens.turn {P : Program} {t : TypeId} {X Y : Type} {k : Nat} {cells : X → List T} {cells' : Y → List T} {bulk : X → Nat} {bulk' : Y → Nat} {ok : X → Prop} {ok' : Y → Prop} (h : Opens P t k cells bulk ok) (g : X → Y)
    (h1 : ∀ a, ok a → cells' (g a) = cells a ∧ bulk' (g a) ≤ bulk a ∧ ok' (g a)) : Opens P t k cells' bulk' ok' :=
 ⟨h.size, fun e => by
  obtain ⟨a, h2, h3, h4, h5⟩ := h.one e
  obtain ⟨h6, h7, h8⟩ := h1 a h2
  exact ⟨g a, h8, h6 ▸ h3, h4, Nat.le_trans h7 h5⟩⟩
theorem VReps.single {w : World} {L : List Nat} {t : T} {u : Value} (h : VRep w L t u) (h1 : u.oneCell' = true) : VReps w L [t] [u] := .cons h h1 .nil
theorem opens_int {P : Program} {t : TypeId} {k : IntKind} (ht : P.underlying t = some (.int k)) (hs : P.cellsOf t = 1) : Opens P t 1 (fun z : Int => [.v (.int k z)]) (fun _ => 1) (fun z => (Lit.int k z).wf = true) :=
 ⟨hs, fun e => by
  obtain ⟨n, rfl, rfl, h⟩ := DataW.trod_int ht e
  exact ⟨n, h, .single (.v _) rfl, rfl, bulk_one _⟩⟩
theorem opens_string {P : Program} {t : TypeId} (ht : P.underlying t = some .string) (hs : P.cellsOf t = 1) : Opens P t 1 (fun l : List UInt8 => [.v (.string ⟨l.toArray⟩)]) (fun l => l.length + 1) (fun l => l.length ≤ maxLen) :=
 ⟨hs, fun e => by
  obtain ⟨s, rfl, rfl, h⟩ := DataW.trod_string ht e
  exact ⟨s.data.toList, by simpa using h, .single (.v _) rfl, rfl, by simp [Rows.uptoBulk]⟩⟩
structure OpensF (P : Program) (fs : List Field) (o : Nat) {X : Type} (k : Nat) (cells : X → List T) (bulk : X → Nat) (ok : X → Prop) : Prop where
 all : ∀ {H : Type} {enc : TypeId × Value → H} {w : World} {base : Nat} {spare : Nat → Bool} {held : Bool} {n : Nat} {cs : List Value} {ys : List (DataW H × List MemPlace)},
  ys.length = fs.length → cs.length = o + k → (∀ (i : Nat) (f : Field), fs[i]? = some f → DataW.trod enc P w base spare held n f.type ((cs.drop f.offset).take (P.cellsOf f.type)) = ys[i]?) →
   ∃ a, ok a ∧ VReps w [] (cells a) (cs.drop o) ∧ bulk a ≤ Rows.uptoBulkAll (ys.map (·.1))
theorem opensF_nil {P : Program} {o : Nat} : OpensF P [] o 0 (fun _ : Unit => []) (fun _ => 0) (fun _ => True) :=
 ⟨fun {H enc w base spare held n cs ys} h1 h2 _ => ⟨(), trivial, by rw [List.drop_of_length_le (by omega)]; exact .nil, Nat.zero_le _⟩⟩
theorem opensF_cons {P : Program} {f : Field} {fs : List Field} {o k m : Nat} {X Y : Type} {cells : X → List T} {cells' : Y → List T} {bulk : X → Nat} {bulk' : Y → Nat} {ok : X → Prop} {ok' : Y → Prop} (h0 : Opens P f.type k cells bulk ok) (ho : f.offset = o)
    (h : OpensF P fs (o + k) m cells' bulk' ok') : OpensF P (f :: fs) o (k + m) (fun a : X × Y => cells a.1 ++ cells' a.2) (fun a => bulk a.1 + bulk' a.2) (fun a => ok a.1 ∧ ok' a.2) :=
 ⟨fun {H enc w base spare held n cs ys} h1 h2 h3 => by
  match ys, h1 with
  | y :: ys, h1 =>
   have e := h3 0 f rfl
   rw [ho, h0.size] at e
   simp only [List.getElem?_cons_zero] at e
   obtain ⟨a, q1, q2, q3, q4⟩ := h0.one e
   obtain ⟨b, r1, r2, r3⟩ := h.all (ys := ys) (cs := cs) (by simpa using h1) (by omega) (fun i g hg => by simpa using h3 (i + 1) g (by simpa using hg))
   refine ⟨(a, b), ⟨q1, r1⟩, ?_, by simp only [List.map_cons, Rows.uptoBulkAll]; omega⟩
   rw [← List.drop_drop] at r2
   have := q2.append r2
   rwa [List.take_append_drop] at this⟩
theorem opens_struct {P : Program} {t : TypeId} {fs : Array Field} {X : Type} {k : Nat} {cells : X → List T} {bulk : X → Nat} {ok : X → Prop} (ht : P.underlying t = some (.struct fs)) (hs : P.cellsOf t = k) (h : OpensF P fs.toList 0 k cells bulk ok) :
    Opens P t k cells (fun a => bulk a + 1) ok :=
 ⟨hs, fun e => by
  obtain ⟨xs, n, _, rfl, hl, hlen, hf⟩ := DataW.trod_struct ht e
  obtain ⟨a, h1, h2, h3⟩ := h.all (by simpa using hlen) (by omega) (fun i f hi => hf i f (by simpa using hi))
  exact ⟨a, h1, by simpa using h2, by omega, by simp only [Rows.uptoBulk]; omega⟩⟩
def sumBulk {X : Type} (bulk : X → Nat) (l : List X) : Nat := (l.map bulk).sum
theorem opens_slice {P : Program} {t e : TypeId} {X : Type} {k : Nat} {cells : X → List T} {bulk : X → Nat} {ok : X → Prop} (ht : P.underlying t = some (.slice e)) (hs : P.cellsOf t = 1) (hk : 0 < k) (h : Opens P e k cells bulk ok) :
    Opens P t 1 (fun l : List X => [.sl k (l.flatMap cells)]) (fun l => sumBulk bulk l + 1) (fun l => (∀ a ∈ l, ok a) ∧ l.length ≤ maxLen) :=
 ⟨hs, fun {H enc w base spare held fuel cs x} ex => by
  rcases Go.Deep.open_slice ht ex with ⟨rfl, rfl⟩ | ⟨a, len, cap, m, n, D, Pl, rfl, hb, hl, hm, hmm, rfl, hx⟩
  ·exact ⟨[], ⟨fun a ha => (by cases ha), Nat.zero_le _⟩, .single (.sl0 (Nat.zero_le _)) rfl, rfl, by simp [sumBulk, Rows.uptoBulk]⟩
  ·have hlm : len ≤ m := by rw [hmm]; split <;> omega
   rw [h.size] at hx
   have key : ∀ q, q ≤ len → ∃ (l : List X) (us : List Value), l.length = q ∧ us.length = q * k ∧ VReps w [] (l.flatMap cells) us ∧ (∀ j u, us[j]? = some u → w.cell? (a.add j) = some u) ∧ (∀ a ∈ l, ok a) ∧
       sumBulk bulk l ≤ Rows.uptoBulkAll ((List.range q).map D) := by
    intro q
    induction q with
    | zero => exact fun _ => ⟨[], [], rfl, by simp, .nil, fun j u hu => by simp at hu, fun a ha => (by cases ha), by simp [sumBulk]⟩
    | succ q ih =>
     intro hq
     obtain ⟨l, us, h1, h2, h3, h4, h5, h6⟩ := ih (by omega)
     obtain ⟨cs', h7, h8⟩ := hx q (by omega)
     obtain ⟨a', h9, h10, h11, h12⟩ := h.one h8
     obtain ⟨_, _, h13⟩ := World.cells?_some h7
     refine ⟨l ++ [a'], us ++ cs', by simp [h1], ?_, ?_, ?_, ?_, ?_⟩
     ·rw [List.length_append, h2, h11, Nat.succ_mul]
     ·rw [List.flatMap_append]
      simpa using h3.append h10
     ·intro j u hu
      by_cases hj : j < us.length
      ·rw [List.getElem?_append_left hj] at hu
       exact h4 j u hu
      ·rw [List.getElem?_append_right (by omega)] at hu
       have hjl := (List.getElem?_eq_some_iff.1 hu).1
       have := h13 (j - us.length) (by omega)
       rw [add_add', hu] at this
       rw [← this]
       congr 2
       omega
     ·intro y hy
      rcases List.mem_append.1 hy with hy | hy
      ·exact h5 y hy
      ·rcases List.mem_singleton.1 hy with rfl
       exact h9
     ·rw [List.range_succ, List.map_append, bulk_append]
      simp only [sumBulk, List.map_append, List.sum_append, List.map_cons, List.map_nil, List.sum_cons, List.sum_nil, Rows.uptoBulkAll] at h6 h12 ⊢
      omega
   obtain ⟨l, us, h1, h2, h3, h4, h5, h6⟩ := key len (Nat.le_refl _)
   refine ⟨l, ⟨h5, by omega⟩, .single ?_ rfl, rfl, by simp only [Rows.uptoBulk]; omega⟩
   rcases Nat.eq_zero_or_pos len with rfl | hpos
   ·rw [List.eq_nil_of_length_eq_zero h1]
    exact .sl0 hm
   ·have hlu := h3.len
    have hup : 0 < us.length := by rw [h2]; exact Nat.mul_pos hpos hk
    have hc0 := h4 0 _ (List.getElem?_eq_getElem hup)
    exact .sl hpos (by rw [hlu, h2]) hlu hl hm (by have := cell_lt hc0; rwa [block_add] at this) (by simp) h4 h3.at_ h3.one⟩
def byteOfInt (z : Int) : UInt8 := UInt8.ofNat z.toNat
theorem byteOfInt_back {z : Int} (h : (Lit.int .u8 z).wf = true) : ((byteOfInt z).toNat : Int) = z := by
 have hx : 0 ≤ z ∧ z ≤ 255 := by simpa [Lit.wf, IntKind.min, IntKind.max, IntKind.signed, IntKind.bits] using h
 unfold byteOfInt
 rw [UInt8.toNat_ofNat']
 omega
theorem sumBulk_one {X : Type} : ∀ (l : List X), sumBulk (fun _ => 1) l = l.length
 | [] => rfl
 | _ :: r => by have := sumBulk_one r; simp only [sumBulk, List.map_cons, List.sum_cons, List.length_cons] at this ⊢; omega
theorem flat_one {X : Type} (f : X → T) : ∀ (l : List X), l.flatMap (fun a => [f a]) = l.map f
 | [] => rfl
 | _ :: r => by simp [flat_one f r]
theorem opens_bytes {P : Program} {t e : TypeId} (ht : P.underlying t = some (.slice e)) (hs : P.cellsOf t = 1) (he : P.underlying e = some (.int .u8)) (hs' : P.cellsOf e = 1) :
    Opens P t 1 (fun l : List UInt8 => [.sl 1 (l.map fun b => .v (.int .u8 b.toNat))]) (fun l => l.length + 1) (fun l => l.length ≤ maxLen) :=
 (opens_slice ht hs (by decide) (opens_int he hs')).turn (fun l => l.map byteOfInt) (fun l hl => ⟨by
     rw [flat_one, List.map_map]
     congr 2
     refine List.map_congr_left fun z hz => ?_
     simp only [Function.comp]
     rw [byteOfInt_back (hl.1 z hz)], by simp [sumBulk_one], by simpa using hl.2⟩)
theorem Opens.agg {P : Program} {t : TypeId} {fs : Array Field} {X : Type} {k : Nat} {cells : X → List T} {bulk : X → Nat} {ok : X → Prop} (h : Opens P t k cells bulk ok) (ht : P.underlying t = some (.struct fs))
    {H : Type} {enc : TypeId × Value → H} {w : World} {base b0 : Nat} {r : Reach} {spare : Nat → Bool} {held : Bool} {v : Value} {d : DataW H} {p : List MemPlace} (hv : Value.okWide P w r b0 t v) (e : DataW.Trod enc P w base spare held t v d p) :
    ∃ a, ok a ∧ VRep w [] (.agg (cells a)) v ∧ bulk a ≤ Rows.uptoBulk d := by
 obtain ⟨cs, rfl, hsz⟩ := okWide_struct ht hv
 obtain ⟨fuel, hf⟩ := e
 obtain ⟨a, h1, h2, h3, h4⟩ := h.one hf
 simp only [Value.cells] at h2 h3
 exact ⟨a, h1, by
  have := VRep.agg h2.len h2.at_ h2.one
  simpa using this, h4⟩
end Go.Proofs.Ytlfklgganokgdaa

namespace Go.Proofs.Ytlfklgganokgdaa
open Go.ChangeShapes Go.WideShapes Go.ChangeAt Go Go.RowKit
theorem laidOut : laidOutB Try.prog = true := by kernel_rfl
theorem opens9 : Opens Try.prog 9 1 (fun l : List UInt8 => [sv l]) (fun l => l.length + 1) (fun l => l.length ≤ maxLen) := opens_string Try.underlying9 (by kernel_rfl)
theorem opens3 : Opens Try.prog 3 1 (fun z : Int => [zi z]) (fun _ => 1) (fun z => (Lit.int .i64 z).wf = true) := opens_int Try.underlying3 (by kernel_rfl)
theorem opens2 : Opens Try.prog 2 1 (fun z : Int => [zi z]) (fun _ => 1) (fun z => (Lit.int .i64 z).wf = true) := opens_int Try.underlying2 (by kernel_rfl)
theorem int_i64 {z : Int} (h : (Lit.int .i64 z).wf = true) : -9223372036854775808 ≤ z ∧ z ≤ 9223372036854775807 := by simpa [Lit.wf, IntKind.min, IntKind.max, IntKind.signed, IntKind.bits] using h
theorem sum_mem {X : Type} {f : X → Nat} {l : List X} {s : X} (h : s ∈ l) : f s ≤ sumBulk f l := by
 induction l with
 | nil => cases h
 | cons x r ih =>
  simp only [sumBulk, List.map_cons, List.sum_cons] at ih ⊢
  rcases List.mem_cons.1 h with rfl | h
  ·omega
  ·have := ih h; omega
theorem sum_le {X : Type} {f g : X → Nat} (h : ∀ x, f x ≤ g x) (l : List X) : sumBulk f l ≤ sumBulk g l := by
 induction l with
 | nil => exact Nat.le_refl _
 | cons x r ih =>
  simp only [sumBulk, List.map_cons, List.sum_cons] at ih ⊢
  have := h x; omega
theorem sum_len {X : Type} {f : X → Nat} (h : ∀ x, 1 ≤ f x) (l : List X) : l.length ≤ sumBulk f l := by
 have := sum_le (f := fun _ : X => 1) h l
 rwa [sumBulk_one] at this
theorem opens47 : Opens Try.prog 47 1 (fun l : List Int => [.sl 1 (l.map zi)]) (fun l => l.length + 1) (fun l => ∀ z ∈ l, (Lit.int .i64 z).wf = true) :=
 (opens_slice Try.underlying47 (by kernel_rfl) (by decide) opens3).turn (fun l => l) (fun l h => ⟨by rw [flat_one], by rw [sumBulk_one]; omega, h.1⟩)
def insBulk (i : Ins) : Nat := i.args.length + 12
def InsWf (i : Ins) : Prop := -9223372036854775808 ≤ i.imm ∧ i.imm ≤ 9223372036854775807
theorem opens58 : Opens Try.prog 58 11 insCells insBulk InsWf :=
 (opens_struct Try.underlying58 (by kernel_rfl) (opensF_cons opens3 rfl (opensF_cons opens3 rfl (opensF_cons opens3 rfl (opensF_cons opens3 rfl (opensF_cons opens3 rfl (opensF_cons opens3 rfl (opensF_cons opens3 rfl (opensF_cons opens3 rfl (opensF_cons opens3 rfl (opensF_cons opens2 rfl (opensF_cons opens47 rfl opensF_nil)))))))))))).turn
  (fun a => (⟨a.1, a.2.1, a.2.2.1, a.2.2.2.1, a.2.2.2.2.1, a.2.2.2.2.2.1, a.2.2.2.2.2.2.1, a.2.2.2.2.2.2.2.1, a.2.2.2.2.2.2.2.2.1, a.2.2.2.2.2.2.2.2.2.1, a.2.2.2.2.2.2.2.2.2.2.1⟩ : Ins))
  (fun a h => by
   obtain ⟨_, _, _, _, _, _, _, _, _, h10, _⟩ := h
   exact ⟨rfl, by simp only [insBulk]; omega, int_i64 h10⟩)
theorem opens49 : Opens Try.prog 49 1 (fun l : List Ins => [.sl 11 (l.flatMap insCells)]) (fun l => sumBulk insBulk l + 1) (fun l => (∀ i ∈ l, InsWf i) ∧ l.length ≤ maxLen) := opens_slice Try.underlying49 (by kernel_rfl) (by decide) opens58
def fnBulk (f : Fn) : Nat := f.name.length + sumBulk insBulk f.code + 6
def FnWf (f : Fn) : Prop := (-9223372036854775808 ≤ f.regs ∧ f.regs ≤ 9223372036854775807) ∧ ∀ i ∈ f.code, InsWf i
theorem opens51 : Opens Try.prog 51 5 fnCells fnBulk FnWf :=
 (opens_struct Try.underlying51 (by kernel_rfl) (opensF_cons opens9 rfl (opensF_cons opens3 rfl (opensF_cons opens3 rfl (opensF_cons opens3 rfl (opensF_cons opens49 rfl opensF_nil)))))).turn
  (fun a => (⟨a.1, a.2.1, a.2.2.1, a.2.2.2.1, a.2.2.2.2.1⟩ : Fn))
  (fun a h => by
   obtain ⟨_, _, h3, _, h5, _⟩ := h
   exact ⟨rfl, by simp only [fnBulk]; omega, int_i64 h3, h5.1⟩)
theorem opens22 : Opens Try.prog 22 1 (fun l : List Fn => [.sl 5 (l.flatMap fnCells)]) (fun l => sumBulk fnBulk l + 1) (fun l => (∀ f ∈ l, FnWf f) ∧ l.length ≤ maxLen) := opens_slice Try.underlying22 (by kernel_rfl) (by decide) opens51
theorem opens23 : Opens Try.prog 23 1 (fun l : List UInt8 => [.sl 1 (l.map u8)]) (fun l => l.length + 1) (fun l => l.length ≤ maxLen) := opens_bytes Try.underlying23 (by kernel_rfl) Try.underlying5 (by kernel_rfl)
def progBulk (p : Prog) : Nat := sumBulk fnBulk p.funs + p.data.length
def ProgWf (p : Prog) : Prop := (∀ f ∈ p.funs, FnWf f) ∧ -9223372036854775808 ≤ p.zero ∧ p.zero ≤ 9223372036854775807
theorem opens25 : Opens Try.prog 25 3 progCells progBulk ProgWf :=
 (opens_struct Try.underlying25 (by kernel_rfl) (opensF_cons opens22 rfl (opensF_cons opens23 rfl (opensF_cons opens3 rfl opensF_nil)))).turn
  (fun a => (⟨a.1, a.2.1, a.2.2.1⟩ : Prog))
  (fun a h => by
   obtain ⟨h1, _, h3, _⟩ := h
   exact ⟨rfl, by simp only [progBulk]; omega, h1.1, int_i64 h3⟩)
theorem sum_code (l : List Fn) : (l.map fun f => f.code.length).sum ≤ sumBulk fnBulk l :=
 sum_le (f := fun f : Fn => f.code.length) (fun f => by
  have := sum_len (f := insBulk) (fun i => by simp only [insBulk]; omega) f.code
  simp only [fnBulk]; omega) l
theorem progIn_of {p : Prog} (h : ProgWf p) (hb : progBulk p ≤ 1048576) : ProgIn p := by
 have h1 := sum_code p.funs
 have h2 := sum_len (f := fnBulk) (fun f => by simp only [fnBulk]; omega) p.funs
 simp only [progBulk] at hb
 refine ⟨by omega, by omega, fun f hf => ?_, by omega, h.2.1, h.2.2⟩
 have h3 := sum_mem (f := fnBulk) hf
 have h4 := sum_len (f := insBulk) (fun i => by simp only [insBulk]; omega) f.code
 have h5 := h.1 f hf
 simp only [fnBulk] at h3
 refine ⟨h5.1.1, h5.1.2, by omega, fun i hi => ?_⟩
 have h6 := sum_mem (f := insBulk) hi
 simp only [insBulk] at h6
 exact ⟨(h5.2 i hi).1, (h5.2 i hi).2, by omega⟩
section
variable {H : Type} {enc : TypeId × Value → H} {w : World} {base b0 : Nat} {spare : Nat → Bool} {held : Bool} {v : Value} {d : DataW H} {p : List MemPlace}
set_option maxRecDepth 100000 in
theorem open_prog (hv : Value.okWide Try.prog w .any b0 25 v) (e : DataW.Trod enc Try.prog w base spare held 25 v d p) : ∃ x : Prog, ProgWf x ∧ VRep w [] (.agg (progCells x)) v ∧ progBulk x ≤ Rows.uptoBulk d := opens25.agg Try.underlying25 hv e
end
end Go.Proofs.Ytlfklgganokgdaa

namespace Go.Proofs.Ytlfklgganokgdaa
open Go.ChangeShapes Go.WideShapes Go.ChangeAt Go Go.RowKit
def fileBulk (f : List UInt8 × List UInt8) : Nat := f.1.length + f.2.length + 3
theorem opens72 : Opens Try.prog 72 2 V.fCells fileBulk (fun f => f.1.length ≤ maxLen ∧ f.2.length ≤ maxLen) :=
 (opens_struct Try.underlying72 (by kernel_rfl) (opensF_cons opens9 rfl (opensF_cons opens9 rfl opensF_nil))).turn (fun a => (a.1, a.2.1)) (fun a h => ⟨rfl, by simp only [fileBulk]; omega, ⟨h.1, h.2.1⟩⟩)
theorem opens31 : Opens Try.prog 31 1 (fun l : List (List UInt8 × List UInt8) => [.sl 2 (l.flatMap V.fCells)]) (fun l => sumBulk fileBulk l + 1) (fun l => (∀ f ∈ l, f.1.length ≤ maxLen ∧ f.2.length ≤ maxLen) ∧ l.length ≤ maxLen) := opens_slice Try.underlying31 (by kernel_rfl) (by decide) opens72
def worldBulk (w : List UInt8 × List (List UInt8 × List UInt8)) : Nat := w.1.length + sumBulk fileBulk w.2
def WorldWf (w : List UInt8 × List (List UInt8 × List UInt8)) : Prop := w.1.length ≤ maxLen ∧ w.2.length ≤ maxLen
theorem opens33 : Opens Try.prog 33 2 (fun w : List UInt8 × List (List UInt8 × List UInt8) => [sv w.1, .sl 2 (w.2.flatMap V.fCells)]) worldBulk WorldWf :=
 (opens_struct Try.underlying33 (by kernel_rfl) (opensF_cons opens9 rfl (opensF_cons opens31 rfl opensF_nil))).turn (fun a => (a.1, a.2.1)) (fun a h => ⟨rfl, by simp only [worldBulk]; omega, ⟨h.1, h.2.1.2⟩⟩)
theorem files_le {l : List (List UInt8 × List UInt8)} : l.length ≤ sumBulk fileBulk l := sum_len (fun x => by simp only [fileBulk]; omega) l
theorem files_in {l : List (List UInt8 × List UInt8)} {x : List UInt8 × List UInt8} (h : x ∈ l) : x.1.length + x.2.length ≤ sumBulk fileBulk l := by
 have := sum_mem (f := fileBulk) h
 simp only [fileBulk] at this ⊢
 omega
section
variable {H : Type} {enc : TypeId × Value → H} {w : World} {base b0 : Nat} {spare : Nat → Bool} {held : Bool} {v : Value} {d : DataW H} {p : List MemPlace}
set_option maxRecDepth 100000 in
theorem open_world (hv : Value.okWide Try.prog w .any b0 33 v) (e : DataW.Trod enc Try.prog w base spare held 33 v d p) : ∃ x : List UInt8 × List (List UInt8 × List UInt8), VRep w [] (V.worldT x.1 x.2) v ∧ worldBulk x ≤ Rows.uptoBulk d := by
 obtain ⟨x, _, h1, h2⟩ := opens33.agg Try.underlying33 hv e
 exact ⟨x, h1, h2⟩
set_option maxRecDepth 100000 in
theorem open_int (hv : Value.okWide Try.prog w .any b0 3 v) (e : DataW.Trod enc Try.prog w base spare held 3 v d p) : ∃ z, v = .int .i64 z ∧ -9223372036854775808 ≤ z ∧ z ≤ 9223372036854775807 := by
 obtain ⟨z, rfl⟩ := okWide_int Try.underlying3 hv
 obtain ⟨fuel, hf⟩ := e
 obtain ⟨z', h1, _, h2⟩ := DataW.trod_int Try.underlying3 hf
 simp only [Value.cells, List.cons.injEq, Value.int.injEq, true_and, and_true] at h1
 subst h1
 exact ⟨z, rfl, int_i64 h2⟩
end
end Go.Proofs.Ytlfklgganokgdaa
