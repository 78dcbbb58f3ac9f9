/-
  TEXTS JOINED: WkG, Wk19, Wk20, Wk21, Text, WkK, WkD, Whole, WkL, WkI, Aw14, Open.
-/
import Derived.Test.YtjndpakhmgapjaaDoorRows
import Derived.ProofKit
import Derived.OpenShut
import Derived.JoinedCond
import Derived.Carry
import Derived.Deep.Slices
import Derived.Test.YtjndpakhmgapjaaDoorLe
set_option linter.unusedSimpArgs false
set_option linter.unusedVariables false
set_option linter.unusedSectionVars false
set_option linter.unnecessarySimpa false
namespace Go.Proofs.YtjndpakhmgapjaaDoor
open Go Go.RowKit
set_option linter.unusedVariables false
set_option linter.unnecessarySimpa false
set_option linter.unusedSimpArgs false

set_option maxHeartbeats 400000 in
theorem byteAt64 (bs : List UInt8) (k : Nat) (hbs : bs.length ≤ 1099511627776) (hk : k ≤ 1099511627776) :
    ACalls Tryd.prog 64 [u8s bs, .v (.int .i64 (k : Int))] [] fun t_ S => t_ = .v (.int .i64 (byteAt bs k)) := by
  refine ACalls.intro Tryd.func64 rfl Tryd.ntmps64 (Nat.le_of_ble_eq_true rfl) rfl fun X w0 => ?_
  refine AW.rseq ?_
  refine Y1 (Yv.assign rfl eV) ?_
  refine nl ?_
  refine AW.seq ?_
  refine AW.rseq ?_
  refine Y1 (Yv.move rfl eV) ?_
  refine Y1 (Yv.move rfl eV) ?_
  refine Y1 (Yv.lenSl rfl so_24 (B rfl) (E rfl rfl) len_u8s) ?_
  refine Y1 (Yv.lss rfl eV eV) ?_
  refine nl ?_
  refine AW.cond rfl (fun h0t => ?_) (fun h0f => ?_)
  ·
   try replace h0t := of_decide_eq_true h0t
   refine AW.rseq ?_
   refine Y1 (Yv.move rfl eV) ?_
   refine Y1 (Yv.move rfl eV) ?_
   refine Y1 (Yv.indexSl rfl ss_24 (B rfl) (E rfl rfl) (E rfl rfl) (fun hg => ⟨rfl, (by first | omega | (simp only [len_u8s, len_ints, len_forms]; omega))⟩)) ?_
   refine Y1 (Yv.loadRp rfl ag_5 (E rfl rfl) (fun hg => u8_get (by omega))) ?_
   refine Y1 (Yv.convU8 rfl Tryd.underlying5 kd_3 rfl (E rfl rfl)) ?_
   refine Y1 (Yv.assign rfl eV) ?_
   refine nl ?_
   refine AW.ret (retI (.tmp rfl .nil) ?_)
   rfl
  try replace h0f := of_decide_eq_false h0f
  refine AW.skip ?_
  refine AW.rseq ?_
  refine Y1 (Yv.assign rfl eV) ?_
  refine nl ?_
  refine AW.ret (retI (.tmp rfl .nil) ?_)
  rw [byteAt_out (by omega)]
  rfl

set_option maxHeartbeats 400000 in
theorem signed65 (l : List UInt8) (hl : l.length ≤ 8) :
    ACalls Tryd.prog 65 [u8s l] [] fun t_ S => t_ = .v (.int .i64 (signF l)) := by
  refine ACalls.intro Tryd.func65 rfl Tryd.ntmps65 (Nat.le_of_ble_eq_true rfl) rfl fun X w0 => ?_
  refine AW.rseq ?_
  refine Y1 (Yv.assign rfl eV) ?_
  refine nl ?_
  refine AW.rseq ?_
  refine Y1 (Yv.assign rfl eV) ?_
  refine nl ?_
  refine AW.seq ?_
  refine AW.rseq ?_
  refine Y1 (Yv.move rfl eV) ?_
  refine Y1 (Yv.lenSl rfl so_24 (B rfl) (E rfl rfl) len_u8s) ?_
  refine Y1 (Yv.subN_i64 rfl (E rfl rfl) (E rfl rfl) (fun hg => by omega)) ?_
  refine Y1 (Yv.assign rfl eV) ?_
  refine nl ?_
  refine AW.block ?_
  refine AW.loop (fun (j : Nat) => [(0, true, u8s l), (3, true, .v (.int .i64 (signF (l.drop j)))), (4, true, .v (.int .i64 ((j : Int) - 1)))]) (fun (j : Nat) => []) (fun (j : Nat) => j ≤ l.length) (fun (j : Nat) => j) l.length ?_ ?_ ?_ ?_
  · exact Nat.le_refl _
  · exact (Sub.cons rfl rfl (Sub.cons rfl (by rw [List.drop_length]; rfl) (Sub.cons rfl rfl Sub.nil)))
  · rfl
  ·
   intro j hinv
   have hs7 : 1 ≤ j → -36028797018963968 ≤ signF (l.drop j) ∧ signF (l.drop j) ≤ 36028797018963967 := fun hj => sign7 (by rw [List.length_drop]; omega)
   have hxr := sx_range l j
   refine AW.seq ?_
   refine AW.rseq ?_
   refine Y1 (Yv.move rfl eV) ?_
   refine Y1 (Yv.geq rfl eV eV) ?_
   refine nl ?_
   refine AW.cond rfl (fun h0t => ?_) (fun h0f => ?_)
   ·
    try replace h0t := of_decide_eq_true h0t
    have hj1 : 1 ≤ j := by omega
    have hs8 := hs7 hj1
    have hsn : sx l j < 0 → signF (l.drop j) = 0 := sx_neg hj1
    have hbx := u8_toNat (l.getD (j - 1) 0)
    refine AW.skip ?_
    refine AW.seq ?_
    refine AW.block ?_
    refine AW.rseq ?_
    refine Y1 (Yv.move rfl eV) ?_
    refine Y1 (Yv.move rfl eV) ?_
    refine Y1 (Yv.indexSl (j := (j - 1)) rfl ss_24 (B rfl) (E rfl rfl) (E rfl rfl) (fun hg => ⟨by omega, by simp only [len_u8s]; omega⟩)) ?_
    refine Y1 (Yv.loadRp rfl ag_5 (E rfl rfl) (fun hg => u8_get (by omega))) ?_
    refine Y1 (Yv.convU8 rfl Tryd.underlying5 kd_2 rfl (E rfl rfl)) ?_
    refine Y1 (Yv.assign rfl eV) ?_
    refine nl ?_
    refine AW.mid (α := Unit) (fun _ => [(0, true, u8s l), (3, true, .v (.int .i64 (signF (l.drop j)))), (4, true, .v (.int .i64 ((j : Int) - 1))), (5, true, .v (.int .i64 (sx l j)))]) (fun _ => []) (fun _ => True) ?_ ?_
    ·
     refine AW.rseq ?_
     refine Y1 (Yv.move rfl eV) ?_
     refine Y1 (Yv.move rfl eV) ?_
     refine Y1 (Yv.lenSl rfl so_24 (B rfl) (E rfl rfl) len_u8s) ?_
     refine Y1 (Yv.subN_i64 rfl (E rfl rfl) (E rfl rfl) (fun hg => by omega)) ?_
     refine Y1 (Yv.eql rfl eV eV) ?_
     refine Y1 (Yv.move rfl eV) ?_
     refine AWL.ygT rfl rfl rfl rfl (B rfl) (Yv.move rfl (E rfl rfl)) ?_
     refine AWL.ygT rfl rfl rfl rfl (B rfl) (Yv.gtr rfl (Eg rfl rfl id) (E rfl rfl)) ?_
     refine Y1 (Yv.pickAnd rfl (E rfl rfl) (Eg rfl rfl id)) ?_
     refine nl ?_
     refine AW.cond rfl (fun h1t => ?_) (fun h1f => ?_)
     ·
      try replace h1t := of_decide_eq_true h1t
      refine AW.region ?_
      refine Y1 (Yv.move rfl eV) ?_
      refine Y1 (Yv.subN_i64 rfl (E rfl rfl) (E rfl rfl) (fun hg => by omega)) ?_
      refine Y1 (Yv.assign rfl eV) ?_
      refine nl ?_
      refine ⟨(), trivial, (Sub.cons rfl rfl (Sub.cons rfl rfl (Sub.cons rfl rfl (Sub.cons rfl (by rw [sx, if_pos h1t]) Sub.nil)))), rfl⟩
     try replace h1f := of_decide_eq_false h1f
     refine AW.skip ?_
     refine ⟨(), trivial, (Sub.cons rfl rfl (Sub.cons rfl rfl (Sub.cons rfl rfl (Sub.cons rfl (by rw [sx, if_neg (ne_true_of_eq_false h1f)]) Sub.nil)))), rfl⟩
    ·
     rintro _ hmid
     refine AW.region ?_
     refine Y1 (Yv.move rfl eV) ?_
     refine Y1 (Yv.mulN_i64 rfl (E rfl rfl) (E rfl rfl) (fun hg => by omega)) ?_
     refine Y1 (Yv.move rfl eV) ?_
     refine Y1 (Yv.addN_i64 rfl (E rfl rfl) (E rfl rfl) (fun hg => by omega)) ?_
     refine Y1 (Yv.assign rfl eV) ?_
     refine nl ?_
     refine AW.region ?_
     refine Y1 (Yv.move rfl eV) ?_
     refine Y1 (Yv.subN_i64 rfl (E rfl rfl) (E rfl rfl) (fun hg => by omega)) ?_
     refine Y1 (Yv.assign rfl eV) ?_
     refine nl ?_
     refine ⟨j - 1, by omega, by omega, Sub.cons rfl rfl (Sub.cons rfl (by rw [sign_step (by omega) hinv]) (Sub.cons rfl (by congr 2; omega) Sub.nil)), rfl⟩
   try replace h0f := of_decide_eq_false h0f
   refine AW.exit ?_
   refine AW.rseq ?_
   refine Y1 (Yv.move rfl eV) ?_
   refine Y1 (Yv.assign rfl eV) ?_
   refine nl ?_
   refine AW.ret (retI (.tmp rfl .nil) ?_)
   obtain rfl : j = 0 := by omega
   rfl

set_option maxHeartbeats 400000 in
theorem begins46 (b w : List UInt8) (hb : b.length ≤ 1099511627776) (hw : w.length ≤ 1099511627776) :
    ACalls Tryd.prog 46 [u8s b, u8s w] [] fun t_ S => t_ = .v (.bool (begF b w)) := by
  refine ACalls.intro Tryd.func46 rfl Tryd.ntmps46 (Nat.le_of_ble_eq_true rfl) rfl fun X w0 => ?_
  refine AW.rseq ?_
  refine Y1 (Yv.assign rfl eV) ?_
  refine nl ?_
  refine AW.seq ?_
  refine AW.rseq ?_
  refine Y1 (Yv.move rfl eV) ?_
  refine Y1 (Yv.lenSl rfl so_24 (B rfl) (E rfl rfl) len_u8s) ?_
  refine Y1 (Yv.move rfl eV) ?_
  refine Y1 (Yv.lenSl rfl so_24 (B rfl) (E rfl rfl) len_u8s) ?_
  refine Y1 (Yv.gtr rfl eV eV) ?_
  refine nl ?_
  refine AW.cond rfl (fun h0t => ?_) (fun h0f => ?_)
  ·
   try replace h0t := of_decide_eq_true h0t
   refine AW.rseq ?_
   refine Y1 (Yv.assign rfl eV) ?_
   refine nl ?_
   refine AW.ret (retI (.tmp rfl .nil) ?_)
   rw [beg_far (by omega)]
   rfl
  try replace h0f := of_decide_eq_false h0f
  have hwl : w.length ≤ b.length := by omega
  refine AW.skip ?_
  refine AW.seq ?_
  refine AW.rseq ?_
  refine Y1 (Yv.assign rfl eV) ?_
  refine nl ?_
  refine AW.block ?_
  refine AW.loop (fun (k : Nat) => [(0, true, u8s b), (1, true, u8s w), (5, true, .v (.int .i64 (k : Int)))]) (fun (k : Nat) => []) (fun (k : Nat) => k ≤ w.length ∧ ∀ j, j < k → b.getD j 0 = w.getD j 0) (fun (k : Nat) => w.length - k) 0 ?_ ?_ ?_ ?_
  · exact ⟨Nat.zero_le _, fun j hj => by omega⟩
  · exact (Sub.cons rfl rfl (Sub.cons rfl rfl (Sub.cons rfl rfl Sub.nil)))
  · rfl
  ·
   intro k hinv
   obtain ⟨hk, hpre⟩ := hinv
   refine AW.seq ?_
   refine AW.rseq ?_
   refine Y1 (Yv.move rfl eV) ?_
   refine Y1 (Yv.move rfl eV) ?_
   refine Y1 (Yv.lenSl rfl so_24 (B rfl) (E rfl rfl) len_u8s) ?_
   refine Y1 (Yv.lss rfl eV eV) ?_
   refine nl ?_
   refine AW.cond rfl (fun h1t => ?_) (fun h1f => ?_)
   ·
    try replace h1t := of_decide_eq_true h1t
    refine AW.skip ?_
    refine AW.seq ?_
    refine AW.block ?_
    refine AW.rseqQ rfl (by kernel_rfl) ?_
    refine AWQ.y rfl rfl (B rfl) (Yv.move rfl (E rfl rfl)) ?_
    refine AWQ.y rfl rfl (B rfl) (Yv.move rfl (E rfl rfl)) ?_
    refine AWQ.y rfl rfl (B rfl) (Yv.indexSl rfl ss_24 (B rfl) (E rfl rfl) (E rfl rfl) (fun hg => ⟨rfl, (by first | omega | (simp only [len_u8s, len_ints, len_forms]; omega))⟩)) ?_
    refine AWQ.y rfl rfl (B rfl) (Yv.loadRp rfl ag_5 (E rfl rfl) (fun hg => u8_get (by omega))) ?_
    refine AWQ.y rfl rfl (B rfl) (Yv.move rfl (E rfl rfl)) ?_
    refine AWQ.y rfl rfl (B rfl) (Yv.move rfl (E rfl rfl)) ?_
    refine AWQ.y rfl rfl (B rfl) (Yv.indexSl rfl ss_24 (B rfl) (E rfl rfl) (E rfl rfl) (fun hg => ⟨rfl, (by first | omega | (simp only [len_u8s, len_ints, len_forms]; omega))⟩)) ?_
    refine AWQ.y rfl rfl (B rfl) (Yv.loadRp rfl ag_5 (E rfl rfl) (fun hg => u8_get (by omega))) ?_
    refine AWQ.y rfl rfl (B rfl) (Yv.neq rfl (E rfl rfl) (E rfl rfl)) ?_
    refine AWQ.nil ?_
    refine AW.cond rfl (fun h2t => ?_) (fun h2f => ?_)
    ·
     try replace h2t := of_decide_eq_true h2t
     have hne := u8_ne (by simpa using h2t)
     refine AW.rseq ?_
     refine Y1 (Yv.assign rfl eV) ?_
     refine nl ?_
     refine AW.ret (retI (.tmp rfl .nil) ?_)
     rw [beg_ne (k := k) (by omega) hne]
     rfl
    try replace h2f := of_decide_eq_false h2f
    have heq := u8_eq (by simpa using h2f)
    refine AW.skip ?_
    refine AW.region ?_
    refine Y1 (Yv.move rfl eV) ?_
    refine Y1 (Yv.addN_i64 rfl (E rfl rfl) (E rfl rfl) (fun hg => by omega)) ?_
    refine Y1 (Yv.assign rfl eV) ?_
    refine nl ?_
    refine ⟨k + 1, ⟨by omega, fun j hj => ?_⟩, by omega, Sub.cons rfl rfl (Sub.cons rfl rfl (Sub.cons rfl (by simp) Sub.nil)), rfl⟩
    rcases Nat.lt_or_ge j k with h | h
    · exact hpre j h
    · rw [show j = k by omega]; exact heq
   try replace h1f := of_decide_eq_false h1f
   refine AW.exit ?_
   refine AW.rseq ?_
   refine Y1 (Yv.assign rfl eV) ?_
   refine nl ?_
   refine AW.ret (retI (.tmp rfl .nil) ?_)
   rw [beg_all hwl (fun j hj => hpre j (by omega))]
   rfl

set_option maxHeartbeats 4000000 in
theorem guess45 (f : FormF) (bs : List UInt8) (hf1 : FormOk f) (hf2 : FormOk2 f) (hbs : bs.length ≤ 1099511627776) :
    ACalls Tryd.prog 45 [formT f, u8s bs] [] fun t_ S => t_ = insT (guessF f bs) := by
  have hgc := gC_bound hf1 hf2
  have hge := gE_bound hf1 hf2 bs
  have hgx := gX_range f bs
  have hgl := gL_range f bs
  have hgm := gM_range f bs
  have hbm := byteAt_range' bs (gC f)
  have hbl := byteAt_range' bs (gC f - 1)
  have hgcb : gC f = gB f + f.op.length := rfl
  have hgba : gA f ≤ 1 ∧ gB f ≤ gA f + 1 := by unfold gB gA; split <;> split <;> omega
  have hsz := sizeR_le f.imm
  have hu0 : 0 ≤ gUp0 f bs ∧ gUp0 f bs ≤ 8 := by unfold gUp0; omega
  have hb0 : 0 ≤ gBs0 f bs ∧ gBs0 f bs ≤ 8 := by unfold gBs0; omega
  refine ACalls.intro Tryd.func45 rfl Tryd.ntmps45 (Nat.le_of_ble_eq_true rfl) rfl fun X w0 => ?_
  refine AW.rseq ?_
  refine AWL.boxOp rfl rfl (B rfl) rfl (E rfl rfl) rfl (fun b2 => ?_)
  refine AWL.allocOp rfl rfl (B rfl) rfl zc_23 (fun b4 => ?_)
  refine nl ?_
  refine AW.rseq ?_
  refine Y1 (Yv.fieldBox rfl fo_45_0 eV) ?_
  refine Y1 (Yv.loadBox rfl ag_3 (i := 0) rfl (E rfl rfl) rfl) ?_
  refine Y1 (Yv.fieldBox rfl fo_45_1 eV) ?_
  refine Y1 (Yv.loadBox rfl ag_3 (i := 0) rfl (E rfl rfl) rfl) ?_
  refine Y1 (Yv.buildS rfl sh_23 (evpC (E rfl rfl) (evpC (E rfl rfl) evp0)) (fun _ => rfl)) ?_
  refine AWL.allocOp rfl rfl (B rfl) rfl zc_23 (fun b5 => ?_)
  refine AWL.storeBox (i := 2) rfl rfl rfl ag_23 rfl (E rfl rfl) (E rfl rfl) rfl rfl (Nat.le_of_ble_eq_true rfl) ?_
  refine nl ?_
  refine AW.eqS (S' := [.box b2 45 (formCells f), .box b4 23 (insCells ⟨0, 0, 0, 0, 0, 0⟩), .box b5 23 (insCells ⟨f.kind, 0, 0, 0, f.size, 0⟩)]) rfl ?_
  refine AW.rseq ?_
  refine Y1 (Yv.assign rfl eV) ?_
  refine nl ?_
  refine AW.mid (α := Unit) (fun _ => [(1, true, u8s bs), (2, true, .v (.pointer (some ⟨b2, 0, none⟩))), (4, true, .v (.pointer (some ⟨b4, 0, none⟩))), (5, true, .v (.pointer (some ⟨b5, 0, none⟩))), (6, true, .v (.int .i64 ((gA f : Nat) : Int)))]) (fun _ => [.box b2 45 (formCells f), .box b4 23 (insCells ⟨0, 0, 0, 0, 0, 0⟩), .box b5 23 (insCells ⟨f.kind, 0, 0, 0, f.size, 0⟩)]) (fun _ => True) ?_ ?_
  ·
   refine AW.rseq ?_
   refine Y1 (Yv.fieldBox rfl fo_45_2 eV) ?_
   refine Y1 (Yv.loadBox rfl ag_3 (i := 0) rfl (E rfl rfl) rfl) ?_
   refine Y1 (Yv.gtr rfl eV eV) ?_
   refine nl ?_
   refine AW.cond rfl (fun h0t => ?_) (fun h0f => ?_)
   ·
    try replace h0t := of_decide_eq_true h0t
    refine AW.region ?_
    refine Y1 (Yv.move rfl eV) ?_
    refine Y1 (Yv.addN_i64 rfl (E rfl rfl) (E rfl rfl) (fun hg => by omega)) ?_
    refine Y1 (Yv.assign rfl eV) ?_
    refine nl ?_
    refine ⟨(), trivial, (Sub.cons rfl rfl (Sub.cons rfl rfl (Sub.cons rfl rfl (Sub.cons rfl rfl (Sub.cons rfl (by rw [gA, if_pos h0t]; rfl) Sub.nil))))), rfl⟩
   try replace h0f := of_decide_eq_false h0f
   refine AW.skip ?_
   refine ⟨(), trivial, (Sub.cons rfl rfl (Sub.cons rfl rfl (Sub.cons rfl rfl (Sub.cons rfl rfl (Sub.cons rfl (by rw [gA, if_neg h0f]; rfl) Sub.nil))))), rfl⟩
  ·
   rintro _ hmid
   refine AW.rseq ?_
   refine Y1 (Yv.assign rfl eV) ?_
   refine nl ?_
   refine AW.mid (α := Unit) (fun _ => [(1, true, u8s bs), (2, true, .v (.pointer (some ⟨b2, 0, none⟩))), (4, true, .v (.pointer (some ⟨b4, 0, none⟩))), (5, true, .v (.pointer (some ⟨b5, 0, none⟩))), (6, true, .v (.int .i64 ((gB f : Nat) : Int))), (7, true, .v (.int .i64 (gX f bs)))]) (fun _ => [.box b2 45 (formCells f), .box b4 23 (insCells ⟨0, 0, 0, 0, 0, 0⟩), .box b5 23 (insCells ⟨f.kind, 0, 0, 0, f.size, 0⟩)]) (fun _ => True) ?_ ?_
   ·
    refine AW.rseq ?_
    refine Y1 (Yv.fieldBox rfl fo_45_3 eV) ?_
    refine Y1 (Yv.loadBox rfl ag_4 (i := 0) rfl (E rfl rfl) rfl) ?_
    refine nl ?_
    refine AW.cond rfl (fun h1t => ?_) (fun h1f => ?_)
    ·
     try replace h1t := of_decide_eq_true h1t
     refine AW.rseq ?_
     refine Y1 (Yv.move rfl eV) ?_
     refine Y1 (Yv.move rfl eV) ?_
     refine AWL.callT rfl rfl (B rfl) rfl ce_64 (E rfl rfl) (evsC (E rfl rfl) (evsC (E rfl rfl) evs0)) (byteAt64 bs (gA f) hbs (by omega)) ?_
     rintro t29 S29 rfl
     refine Y1 (Yv.assign rfl eV) ?_
     refine nl ?_
     refine AW.region ?_
     refine Y1 (Yv.move rfl eV) ?_
     refine Y1 (Yv.addN_i64 rfl (E rfl rfl) (E rfl rfl) (fun hg => by omega)) ?_
     refine Y1 (Yv.assign rfl eV) ?_
     refine nl ?_
     refine ⟨(), trivial, (Sub.cons rfl rfl (Sub.cons rfl rfl (Sub.cons rfl rfl (Sub.cons rfl rfl (Sub.cons rfl (by rw [gB, if_pos h1t]; simp) (Sub.cons rfl (by rw [gX, if_pos h1t]) Sub.nil)))))), rfl⟩
    try replace h1f := of_decide_eq_false h1f
    refine AW.skip ?_
    refine ⟨(), trivial, (Sub.cons rfl rfl (Sub.cons rfl rfl (Sub.cons rfl rfl (Sub.cons rfl rfl (Sub.cons rfl (by rw [gB, if_neg (ne_true_of_eq_false h1f)]) (Sub.cons rfl (by rw [gX, if_neg (ne_true_of_eq_false h1f)]; rfl) Sub.nil)))))), rfl⟩
   ·
    rintro _ hmid
    refine AW.rseq ?_
    refine Y1 (Yv.move rfl eV) ?_
    refine Y1 (Yv.fieldBox rfl fo_45_5 eV) ?_
    refine Y1 (Yv.loadBox rfl ag_43 (i := 0) rfl (E rfl rfl) rfl) ?_
    refine Y1 (Yv.lenSl rfl so_43 (B rfl) (E rfl rfl) len_ints) ?_
    refine Y1 (Yv.addN_i64 rfl (E rfl rfl) (E rfl rfl) (fun hg => by omega)) ?_
    refine Y1 (Yv.assign rfl eV) ?_
    refine nl ?_
    refine AW.rseq ?_
    refine Y1 (Yv.move rfl eV) ?_
    refine Y1 (Yv.move rfl eV) ?_
    refine Y1 (Yv.subN_i64 rfl (E rfl rfl) (E rfl rfl) (fun hg => by omega)) ?_
    rw [show (gB f : Int) + (f.op.length : Int) - 1 = ((gC f - 1 : Nat) : Int) from by omega]
    refine AWL.callT rfl rfl (B rfl) rfl ce_64 (E rfl rfl) (evsC (E rfl rfl) (evsC (E rfl rfl) evs0)) (byteAt64 bs (gC f - 1) hbs (by omega)) ?_
    rintro t40 S40 rfl
    refine Y1 (Yv.assign rfl eV) ?_
    refine nl ?_
    refine AW.mid (α := Unit) (fun _ => [(1, true, u8s bs), (2, true, .v (.pointer (some ⟨b2, 0, none⟩))), (4, true, .v (.pointer (some ⟨b4, 0, none⟩))), (5, true, .v (.pointer (some ⟨b5, 0, none⟩))), (6, true, .v (.int .i64 ((gC f : Nat) : Int))), (7, true, .v (.int .i64 (gX f bs))), (8, true, .v (.int .i64 (gL f bs)))]) (fun _ => [.box b2 45 (formCells f), .box b4 23 (insCells ⟨0, 0, 0, 0, 0, 0⟩), .box b5 23 (insCells ⟨f.kind, 0, 0, (gCd f bs), f.size, 0⟩)]) (fun _ => True) ?_ ?_
    ·
     refine AW.rseq ?_
     refine Y1 (Yv.fieldBox rfl fo_45_10 eV) ?_
     refine Y1 (Yv.loadBox rfl ag_3 (i := 0) rfl (E rfl rfl) rfl) ?_
     refine Y1 (Yv.eql rfl eV eV) ?_
     refine nl ?_
     refine AW.cond rfl (fun h2t => ?_) (fun h2f => ?_)
     ·
      try replace h2t := of_decide_eq_true h2t
      refine AW.region ?_
      refine Y1 (Yv.move rfl eV) ?_
      refine Y1 (Yv.remN rfl (E rfl rfl) (E rfl rfl) (fun hg => by omega)) ?_
      refine Y1 (Yv.fieldBox rfl fo_23_3 eV) ?_
      refine AWL.storeBox (i := 2) rfl rfl rfl ag_3 rfl (E rfl rfl) (E rfl rfl) rfl rfl (Nat.le_of_ble_eq_true rfl) ?_
      refine nl ?_
      refine ⟨(), trivial, (Sub.cons rfl rfl (Sub.cons rfl rfl (Sub.cons rfl rfl (Sub.cons rfl rfl (Sub.cons rfl (by rw [hgcb]; simp) (Sub.cons rfl rfl (Sub.cons rfl rfl Sub.nil))))))), ?_⟩
      rw [gCd, if_pos h2t]
      rfl
     try replace h2f := of_decide_eq_false h2f
     refine AW.skip ?_
     refine ⟨(), trivial, (Sub.cons rfl rfl (Sub.cons rfl rfl (Sub.cons rfl rfl (Sub.cons rfl rfl (Sub.cons rfl (by rw [hgcb]; simp) (Sub.cons rfl rfl (Sub.cons rfl rfl Sub.nil))))))), ?_⟩
     rw [gCd, if_neg h2f]
    ·
     rintro _ hmid
     refine AW.rseq ?_
     refine Y1 (Yv.move rfl eV) ?_
     refine Y1 (Yv.quoN_i64 rfl (E rfl rfl) (E rfl rfl) (fun hg => by omega)) ?_
     refine Y1 (Yv.remN rfl (E rfl rfl) (E rfl rfl) (fun hg => by omega)) ?_
     refine Y1 (Yv.mulN_i64 rfl (E rfl rfl) (E rfl rfl) (fun hg => by omega)) ?_
     refine Y1 (Yv.assign rfl eV) ?_
     refine nl ?_
     refine AW.rseq ?_
     refine Y1 (Yv.move rfl eV) ?_
     refine Y1 (Yv.remN rfl (E rfl rfl) (E rfl rfl) (fun hg => by omega)) ?_
     refine Y1 (Yv.mulN_i64 rfl (E rfl rfl) (E rfl rfl) (fun hg => by omega)) ?_
     refine Y1 (Yv.assign rfl eV) ?_
     refine nl ?_
     refine AW.mid (α := Unit) (fun _ => [(1, true, u8s bs), (2, true, .v (.pointer (some ⟨b2, 0, none⟩))), (4, true, .v (.pointer (some ⟨b4, 0, none⟩))), (5, true, .v (.pointer (some ⟨b5, 0, none⟩))), (6, true, .v (.int .i64 ((gC f : Nat) : Int))), (8, true, .v (.int .i64 (gL f bs))), (9, true, .v (.int .i64 (gUp0 f bs))), (10, true, .v (.int .i64 (gBs0 f bs)))]) (fun _ => [.box b2 45 (formCells f), .box b4 23 (insCells ⟨0, 0, 0, 0, 0, 0⟩), .box b5 23 (insCells ⟨f.kind, (gD0 f bs), 0, (gCd f bs), f.size, 0⟩)]) (fun _ => True) ?_ ?_
     ·
      refine AW.rseq ?_
      refine Y1 (Yv.fieldBox rfl fo_45_8 eV) ?_
      refine Y1 (Yv.loadBox rfl ag_3 (i := 0) rfl (E rfl rfl) rfl) ?_
      refine Y1 (Yv.eql rfl eV eV) ?_
      refine nl ?_
      refine AW.cond rfl (fun h3t => ?_) (fun h3f => ?_)
      ·
       try replace h3t := of_decide_eq_true h3t
       refine AW.region ?_
       refine Y1 (Yv.move rfl eV) ?_
       refine Y1 (Yv.move rfl eV) ?_
       refine Y1 (Yv.remN rfl (E rfl rfl) (E rfl rfl) (fun hg => by omega)) ?_
       refine Y1 (Yv.addN_i64 rfl (E rfl rfl) (E rfl rfl) (fun hg => by omega)) ?_
       refine Y1 (Yv.fieldBox rfl fo_23_1 eV) ?_
       refine AWL.storeBox (i := 2) rfl rfl rfl ag_3 rfl (E rfl rfl) (E rfl rfl) rfl rfl (Nat.le_of_ble_eq_true rfl) ?_
       refine nl ?_
       refine ⟨(), trivial, (Sub.cons rfl rfl (Sub.cons rfl rfl (Sub.cons rfl rfl (Sub.cons rfl rfl (Sub.cons rfl rfl (Sub.cons rfl rfl (Sub.cons rfl rfl (Sub.cons rfl rfl Sub.nil)))))))), ?_⟩
       rw [gD0, if_pos h3t]
       rfl
      try replace h3f := of_decide_eq_false h3f
      refine AW.skip ?_
      refine ⟨(), trivial, (Sub.cons rfl rfl (Sub.cons rfl rfl (Sub.cons rfl rfl (Sub.cons rfl rfl (Sub.cons rfl rfl (Sub.cons rfl rfl (Sub.cons rfl rfl (Sub.cons rfl rfl Sub.nil)))))))), ?_⟩
      rw [gD0, if_neg h3f]
     ·
      rintro _ hmid
      refine AW.mid (α := Unit) (fun _ => [(1, true, u8s bs), (2, true, .v (.pointer (some ⟨b2, 0, none⟩))), (4, true, .v (.pointer (some ⟨b4, 0, none⟩))), (5, true, .v (.pointer (some ⟨b5, 0, none⟩))), (6, true, .v (.int .i64 ((gE f bs : Nat) : Int)))]) (fun _ => [.box b2 45 (formCells f), .box b4 23 (insCells ⟨0, 0, 0, 0, 0, 0⟩), .box b5 23 (insCells ⟨f.kind, (gDd f bs), (gSs f bs), (gCd f bs), f.size, 0⟩)]) (fun _ => True) ?_ ?_
      ·
       refine AW.rseq ?_
       refine Y1 (Yv.fieldBox rfl fo_45_6 eV) ?_
       refine Y1 (Yv.loadBox rfl ag_3 (i := 0) rfl (E rfl rfl) rfl) ?_
       refine Y1 (Yv.geq rfl eV eV) ?_
       refine nl ?_
       refine AW.cond rfl (fun h4t => ?_) (fun h4f => ?_)
       ·
        try replace h4t := of_decide_eq_true h4t
        refine AW.rseq ?_
        refine Y1 (Yv.move rfl eV) ?_
        refine Y1 (Yv.move rfl eV) ?_
        refine AWL.callT rfl rfl (B rfl) rfl ce_64 (E rfl rfl) (evsC (E rfl rfl) (evsC (E rfl rfl) evs0)) (byteAt64 bs (gC f) hbs (by omega)) ?_
        rintro t67 S67 rfl
        refine Y1 (Yv.assign rfl eV) ?_
        refine nl ?_
        refine AW.rseq ?_
        refine Y1 (Yv.move rfl eV) ?_
        refine Y1 (Yv.addN_i64 rfl (E rfl rfl) (E rfl rfl) (fun hg => by omega)) ?_
        refine Y1 (Yv.assign rfl eV) ?_
        refine nl ?_
        refine AW.rseq ?_
        refine Y1 (Yv.move rfl eV) ?_
        refine Y1 (Yv.move rfl eV) ?_
        refine Y1 (Yv.quoN_i64 rfl (E rfl rfl) (E rfl rfl) (fun hg => by omega)) ?_
        refine Y1 (Yv.remN rfl (E rfl rfl) (E rfl rfl) (fun hg => by omega)) ?_
        refine Y1 (Yv.addN_i64 rfl (E rfl rfl) (E rfl rfl) (fun hg => by omega)) ?_
        refine Y1 (Yv.assign rfl eV) ?_
        refine nl ?_
        refine AW.rseq ?_
        refine Y1 (Yv.move rfl eV) ?_
        refine Y1 (Yv.move rfl eV) ?_
        refine Y1 (Yv.remN rfl (E rfl rfl) (E rfl rfl) (fun hg => by omega)) ?_
        refine Y1 (Yv.addN_i64 rfl (E rfl rfl) (E rfl rfl) (fun hg => by omega)) ?_
        refine Y1 (Yv.assign rfl eV) ?_
        refine nl ?_
        refine AW.mid (α := Unit) (fun _ => [(1, true, u8s bs), (2, true, .v (.pointer (some ⟨b2, 0, none⟩))), (4, true, .v (.pointer (some ⟨b4, 0, none⟩))), (5, true, .v (.pointer (some ⟨b5, 0, none⟩))), (6, true, .v (.int .i64 ((gE2 f bs : Nat) : Int))), (9, true, .v (.int .i64 (gUp f bs))), (10, true, .v (.int .i64 (gBs f bs)))]) (fun _ => [.box b2 45 (formCells f), .box b4 23 (insCells ⟨0, 0, 0, 0, 0, 0⟩), .box b5 23 (insCells ⟨f.kind, (gD0 f bs), 0, (gCd f bs), f.size, 0⟩)]) (fun _ => True) ?_ ?_
        ·
         refine AW.rseq ?_
         refine Y1 (Yv.fieldBox rfl fo_45_6 eV) ?_
         refine Y1 (Yv.loadBox rfl ag_3 (i := 0) rfl (E rfl rfl) rfl) ?_
         refine Y1 (Yv.eql rfl eV eV) ?_
         refine Y1 (Yv.move rfl eV) ?_
         refine AWL.ygT rfl rfl rfl rfl (B rfl) (Yv.move rfl (E rfl rfl)) ?_
         refine AWL.ygT rfl rfl rfl rfl (B rfl) (Yv.remN rfl (Eg rfl rfl id) (E rfl rfl) (fun hg => by first | omega | (simp only [Bool.and_eq_true, Bool.or_eq_false_iff, Bool.not_eq_true', Bool.not_eq_false', decide_eq_true_eq, decide_eq_false_iff_not] at hg; omega))) ?_
         refine AWL.ygT rfl rfl rfl rfl (B rfl) (Yv.eql rfl (Eg rfl rfl id) (E rfl rfl)) ?_
         refine Y1 (Yv.pickAnd rfl (E rfl rfl) (Eg rfl rfl id)) ?_
         refine nl ?_
         refine AW.cond rfl (fun h5t => ?_) (fun h5f => ?_)
         ·
          try replace h5t := of_decide_eq_true h5t
          refine AW.region ?_
          refine Y1 (Yv.move rfl eV) ?_
          refine Y1 (Yv.addN_i64 rfl (E rfl rfl) (E rfl rfl) (fun hg => by omega)) ?_
          refine Y1 (Yv.assign rfl eV) ?_
          refine nl ?_
          refine ⟨(), trivial, (Sub.cons rfl rfl (Sub.cons rfl rfl (Sub.cons rfl rfl (Sub.cons rfl rfl (Sub.cons rfl (by rw [gE2, if_pos (show (decide (f.mod = 2) && decide (gM f bs % 8 = 4)) = true from h5t)]; simp) (Sub.cons rfl rfl (Sub.cons rfl rfl Sub.nil))))))), rfl⟩
         try replace h5f := of_decide_eq_false h5f
         refine AW.skip ?_
         refine ⟨(), trivial, (Sub.cons rfl rfl (Sub.cons rfl rfl (Sub.cons rfl rfl (Sub.cons rfl rfl (Sub.cons rfl (by rw [gE2, if_neg (show ¬ (decide (f.mod = 2) && decide (gM f bs % 8 = 4)) = true from ne_true_of_eq_false h5f)]; simp) (Sub.cons rfl rfl (Sub.cons rfl rfl Sub.nil))))))), rfl⟩
        ·
         rintro _ hmid
         refine AW.mid (α := Unit) (fun _ => [(1, true, u8s bs), (2, true, .v (.pointer (some ⟨b2, 0, none⟩))), (4, true, .v (.pointer (some ⟨b4, 0, none⟩))), (5, true, .v (.pointer (some ⟨b5, 0, none⟩))), (6, true, .v (.int .i64 ((gE2 f bs : Nat) : Int))), (9, true, .v (.int .i64 (gUp f bs))), (10, true, .v (.int .i64 (gBs f bs)))]) (fun _ => [.box b2 45 (formCells f), .box b4 23 (insCells ⟨0, 0, 0, 0, 0, 0⟩), .box b5 23 (insCells ⟨f.kind, (gD1 f bs), 0, (gCd f bs), f.size, 0⟩)]) (fun _ => True) ?_ ?_
         ·
          refine AW.rseq ?_
          refine Y1 (Yv.fieldBox rfl fo_45_8 eV) ?_
          refine Y1 (Yv.loadBox rfl ag_3 (i := 0) rfl (E rfl rfl) rfl) ?_
          refine Y1 (Yv.eql rfl eV eV) ?_
          refine nl ?_
          refine AW.cond rfl (fun h6t => ?_) (fun h6f => ?_)
          ·
           try replace h6t := of_decide_eq_true h6t
           refine AW.region ?_
           refine Y1 (Yv.move rfl eV) ?_
           refine Y1 (Yv.fieldBox rfl fo_23_1 eV) ?_
           refine AWL.storeBox (i := 2) rfl rfl rfl ag_3 rfl (E rfl rfl) (E rfl rfl) rfl rfl (Nat.le_of_ble_eq_true rfl) ?_
           refine nl ?_
           refine ⟨(), trivial, (Sub.cons rfl rfl (Sub.cons rfl rfl (Sub.cons rfl rfl (Sub.cons rfl rfl (Sub.cons rfl rfl (Sub.cons rfl rfl (Sub.cons rfl rfl Sub.nil))))))), ?_⟩
           rw [gD1, if_pos h6t]
           rfl
          try replace h6f := of_decide_eq_false h6f
          refine AW.skip ?_
          refine ⟨(), trivial, (Sub.cons rfl rfl (Sub.cons rfl rfl (Sub.cons rfl rfl (Sub.cons rfl rfl (Sub.cons rfl rfl (Sub.cons rfl rfl (Sub.cons rfl rfl Sub.nil))))))), ?_⟩
          rw [gD1, if_neg h6f]
         ·
          rintro _ hmid
          refine AW.mid (α := Unit) (fun _ => [(1, true, u8s bs), (2, true, .v (.pointer (some ⟨b2, 0, none⟩))), (4, true, .v (.pointer (some ⟨b4, 0, none⟩))), (5, true, .v (.pointer (some ⟨b5, 0, none⟩))), (6, true, .v (.int .i64 ((gE2 f bs : Nat) : Int))), (9, true, .v (.int .i64 (gUp f bs))), (10, true, .v (.int .i64 (gBs f bs)))]) (fun _ => [.box b2 45 (formCells f), .box b4 23 (insCells ⟨0, 0, 0, 0, 0, 0⟩), .box b5 23 (insCells ⟨f.kind, (gD2 f bs), 0, (gCd f bs), f.size, 0⟩)]) (fun _ => True) ?_ ?_
          ·
           refine AW.rseq ?_
           refine Y1 (Yv.fieldBox rfl fo_45_8 eV) ?_
           refine Y1 (Yv.loadBox rfl ag_3 (i := 0) rfl (E rfl rfl) rfl) ?_
           refine Y1 (Yv.eql rfl eV eV) ?_
           refine nl ?_
           refine AW.cond rfl (fun h7t => ?_) (fun h7f => ?_)
           ·
            try replace h7t := of_decide_eq_true h7t
            refine AW.region ?_
            refine Y1 (Yv.move rfl eV) ?_
            refine Y1 (Yv.fieldBox rfl fo_23_1 eV) ?_
            refine AWL.storeBox (i := 2) rfl rfl rfl ag_3 rfl (E rfl rfl) (E rfl rfl) rfl rfl (Nat.le_of_ble_eq_true rfl) ?_
            refine nl ?_
            refine ⟨(), trivial, (Sub.cons rfl rfl (Sub.cons rfl rfl (Sub.cons rfl rfl (Sub.cons rfl rfl (Sub.cons rfl rfl (Sub.cons rfl rfl (Sub.cons rfl rfl Sub.nil))))))), ?_⟩
            rw [gD2, if_pos h7t]
            rfl
           try replace h7f := of_decide_eq_false h7f
           refine AW.skip ?_
           refine ⟨(), trivial, (Sub.cons rfl rfl (Sub.cons rfl rfl (Sub.cons rfl rfl (Sub.cons rfl rfl (Sub.cons rfl rfl (Sub.cons rfl rfl (Sub.cons rfl rfl Sub.nil))))))), ?_⟩
           rw [gD2, if_neg h7f]
          ·
           rintro _ hmid
           refine AW.mid (α := Unit) (fun _ => [(1, true, u8s bs), (2, true, .v (.pointer (some ⟨b2, 0, none⟩))), (4, true, .v (.pointer (some ⟨b4, 0, none⟩))), (5, true, .v (.pointer (some ⟨b5, 0, none⟩))), (6, true, .v (.int .i64 ((gE2 f bs : Nat) : Int))), (9, true, .v (.int .i64 (gUp f bs))), (10, true, .v (.int .i64 (gBs f bs)))]) (fun _ => [.box b2 45 (formCells f), .box b4 23 (insCells ⟨0, 0, 0, 0, 0, 0⟩), .box b5 23 (insCells ⟨f.kind, (gD2 f bs), (gS1 f bs), (gCd f bs), f.size, 0⟩)]) (fun _ => True) ?_ ?_
           ·
            refine AW.rseq ?_
            refine Y1 (Yv.fieldBox rfl fo_45_9 eV) ?_
            refine Y1 (Yv.loadBox rfl ag_3 (i := 0) rfl (E rfl rfl) rfl) ?_
            refine Y1 (Yv.eql rfl eV eV) ?_
            refine nl ?_
            refine AW.cond rfl (fun h8t => ?_) (fun h8f => ?_)
            ·
             try replace h8t := of_decide_eq_true h8t
             refine AW.region ?_
             refine Y1 (Yv.move rfl eV) ?_
             refine Y1 (Yv.fieldBox rfl fo_23_2 eV) ?_
             refine AWL.storeBox (i := 2) rfl rfl rfl ag_3 rfl (E rfl rfl) (E rfl rfl) rfl rfl (Nat.le_of_ble_eq_true rfl) ?_
             refine nl ?_
             refine ⟨(), trivial, (Sub.cons rfl rfl (Sub.cons rfl rfl (Sub.cons rfl rfl (Sub.cons rfl rfl (Sub.cons rfl rfl (Sub.cons rfl rfl (Sub.cons rfl rfl Sub.nil))))))), ?_⟩
             rw [gS1, if_pos h8t]
             rfl
            try replace h8f := of_decide_eq_false h8f
            refine AW.skip ?_
            refine ⟨(), trivial, (Sub.cons rfl rfl (Sub.cons rfl rfl (Sub.cons rfl rfl (Sub.cons rfl rfl (Sub.cons rfl rfl (Sub.cons rfl rfl (Sub.cons rfl rfl Sub.nil))))))), ?_⟩
            rw [gS1, if_neg h8f]
           ·
            rintro _ hmid
            refine AW.rseq ?_
            refine Y1 (Yv.fieldBox rfl fo_45_9 eV) ?_
            refine Y1 (Yv.loadBox rfl ag_3 (i := 0) rfl (E rfl rfl) rfl) ?_
            refine Y1 (Yv.eql rfl eV eV) ?_
            refine nl ?_
            refine AW.cond rfl (fun h9t => ?_) (fun h9f => ?_)
            ·
             try replace h9t := of_decide_eq_true h9t
             refine AW.region ?_
             refine Y1 (Yv.move rfl eV) ?_
             refine Y1 (Yv.fieldBox rfl fo_23_2 eV) ?_
             refine AWL.storeBox (i := 2) rfl rfl rfl ag_3 rfl (E rfl rfl) (E rfl rfl) rfl rfl (Nat.le_of_ble_eq_true rfl) ?_
             refine nl ?_
             refine ⟨(), trivial, (Sub.cons rfl rfl (Sub.cons rfl rfl (Sub.cons rfl rfl (Sub.cons rfl rfl (Sub.cons rfl (by rw [gE, if_pos h4t]) Sub.nil))))), ?_⟩
             rw [gDd, if_pos h4t, gSs, if_pos h4t, gS2, if_pos h9t]
             rfl
            try replace h9f := of_decide_eq_false h9f
            refine AW.skip ?_
            refine ⟨(), trivial, (Sub.cons rfl rfl (Sub.cons rfl rfl (Sub.cons rfl rfl (Sub.cons rfl rfl (Sub.cons rfl (by rw [gE, if_pos h4t]) Sub.nil))))), ?_⟩
            rw [gDd, if_pos h4t, gSs, if_pos h4t, gS2, if_neg h9f]
       try replace h4f := of_decide_eq_false h4f
       refine AW.skip ?_
       refine ⟨(), trivial, (Sub.cons rfl rfl (Sub.cons rfl rfl (Sub.cons rfl rfl (Sub.cons rfl rfl (Sub.cons rfl (by rw [gE, if_neg h4f]) Sub.nil))))), ?_⟩
       rw [gDd, if_neg h4f, gSs, if_neg h4f]
      ·
       rintro _ hmid
       refine AW.rseq ?_
       refine Y1 (Yv.assign rfl eV) ?_
       refine nl ?_
       refine AW.mid (α := Unit) (fun _ => [(1, true, u8s bs), (2, true, .v (.pointer (some ⟨b2, 0, none⟩))), (4, true, .v (.pointer (some ⟨b4, 0, none⟩))), (5, true, .v (.pointer (some ⟨b5, 0, none⟩))), (6, true, .v (.int .i64 ((gE f bs : Nat) : Int))), (12, true, .v (.int .i64 ((sizeR f.imm : Nat) : Int)))]) (fun _ => [.box b2 45 (formCells f), .box b4 23 (insCells ⟨0, 0, 0, 0, 0, 0⟩), .box b5 23 (insCells ⟨f.kind, (gDd f bs), (gSs f bs), (gCd f bs), f.size, 0⟩)]) (fun _ => True) ?_ ?_
       ·
        refine AW.rseq ?_
        refine Y1 (Yv.fieldBox rfl fo_45_11 eV) ?_
        refine Y1 (Yv.loadBox rfl ag_3 (i := 0) rfl (E rfl rfl) rfl) ?_
        refine nl ?_
        refine AW.block ?_
        refine AW.rseq ?_
        refine Y1 (Yv.eql rfl eV eV) ?_
        refine Y1 (Yv.assign rfl eV) ?_
        refine nl ?_
        refine AW.cond rfl (fun h10t => ?_) (fun h10f => ?_)
        ·
         try replace h10t := of_decide_eq_true h10t
         refine AW.region ?_
         refine Y1 (Yv.assign rfl eV) ?_
         refine nl ?_
         refine ⟨(), trivial, (Sub.cons rfl rfl (Sub.cons rfl rfl (Sub.cons rfl rfl (Sub.cons rfl rfl (Sub.cons rfl rfl (Sub.cons rfl (by rw [sizeR, if_pos h10t]; rfl) Sub.nil)))))), rfl⟩
        try replace h10f := of_decide_eq_false h10f
        refine AW.rseq ?_
        refine Y1 (Yv.eql rfl eV eV) ?_
        refine Y1 (Yv.assign rfl eV) ?_
        refine nl ?_
        refine AW.cond rfl (fun h11t => ?_) (fun h11f => ?_)
        ·
         try replace h11t := of_decide_eq_true h11t
         refine AW.region ?_
         refine Y1 (Yv.assign rfl eV) ?_
         refine nl ?_
         refine ⟨(), trivial, (Sub.cons rfl rfl (Sub.cons rfl rfl (Sub.cons rfl rfl (Sub.cons rfl rfl (Sub.cons rfl rfl (Sub.cons rfl (by rw [sizeR, if_neg h10f, if_pos h11t]; rfl) Sub.nil)))))), rfl⟩
        try replace h11f := of_decide_eq_false h11f
        refine AW.rseq ?_
        refine Y1 (Yv.eql rfl eV eV) ?_
        refine Y1 (Yv.assign rfl eV) ?_
        refine nl ?_
        refine AW.cond rfl (fun h12t => ?_) (fun h12f => ?_)
        ·
         try replace h12t := of_decide_eq_true h12t
         refine AW.region ?_
         refine Y1 (Yv.assign rfl eV) ?_
         refine nl ?_
         refine ⟨(), trivial, (Sub.cons rfl rfl (Sub.cons rfl rfl (Sub.cons rfl rfl (Sub.cons rfl rfl (Sub.cons rfl rfl (Sub.cons rfl (by rw [sizeR, if_neg h10f, if_neg h11f, if_pos h12t]; rfl) Sub.nil)))))), rfl⟩
        try replace h12f := of_decide_eq_false h12f
        refine AW.skip ?_
        refine ⟨(), trivial, (Sub.cons rfl rfl (Sub.cons rfl rfl (Sub.cons rfl rfl (Sub.cons rfl rfl (Sub.cons rfl rfl (Sub.cons rfl (by rw [sizeR, if_neg h10f, if_neg h11f, if_neg h12f]; rfl) Sub.nil)))))), rfl⟩
       ·
        rintro _ hmid
        refine AW.mid (α := Unit) (fun _ => [(1, true, u8s bs), (2, true, .v (.pointer (some ⟨b2, 0, none⟩))), (4, true, .v (.pointer (some ⟨b4, 0, none⟩))), (5, true, .v (.pointer (some ⟨b5, 0, none⟩)))]) (fun _ => [.box b2 45 (formCells f), .box b4 23 (insCells ⟨0, 0, 0, 0, 0, 0⟩), .box b5 23 (insCells ⟨f.kind, (gDd f bs), (gSs f bs), (gCd f bs), f.size, (gI f bs)⟩)]) (fun _ => True) ?_ ?_
        ·
         refine AW.rseq ?_
         refine Y1 (Yv.move rfl eV) ?_
         refine Y1 (Yv.gtr rfl eV eV) ?_
         refine nl ?_
         refine AW.cond rfl (fun h13t => ?_) (fun h13f => ?_)
         ·
          try replace h13t := of_decide_eq_true h13t
          refine AW.rseq ?_
          refine Y1 (Yv.assign rfl eV) ?_
          refine nl ?_
          refine AW.rowNil 5 1 ?_
          refine AW.seq ?_
          refine AW.rseq ?_
          refine Y1 (Yv.assign rfl eV) ?_
          refine nl ?_
          refine AW.block ?_
          refine AW.loop3 (fun (k : Nat) (Ao : Option Addr) (co : Nat) => [(1, true, u8s bs), (2, true, .v (.pointer (some ⟨b2, 0, none⟩))), (4, true, .v (.pointer (some ⟨b4, 0, none⟩))), (5, true, .v (.pointer (some ⟨b5, 0, none⟩))), (6, true, .v (.int .i64 ((gE f bs : Nat) : Int))), (12, true, .v (.int .i64 ((sizeR f.imm : Nat) : Int))), (13, true, .v (.slice Ao (part bs (gE f bs) k).length co)), (14, true, .v (.int .i64 (k : Int)))]) (fun (k : Nat) (Ao : Option Addr) (co : Nat) => [.box b2 45 (formCells f), .box b4 23 (insCells ⟨0, 0, 0, 0, 0, 0⟩), .box b5 23 (insCells ⟨f.kind, (gDd f bs), (gSs f bs), (gCd f bs), f.size, 0⟩), .row Ao (part bs (gE f bs) k).length co 5 1 ((part bs (gE f bs) k).map u8)]) (fun (k : Nat) (Ao : Option Addr) (co : Nat) => k ≤ sizeR f.imm) (fun (k : Nat) (Ao : Option Addr) (co : Nat) => sizeR f.imm - k) 0 none 0 ?_ ?_ ?_ ?_
          · exact Nat.zero_le _
          · exact (Sub.cons rfl rfl (Sub.cons rfl rfl (Sub.cons rfl rfl (Sub.cons rfl rfl (Sub.cons rfl rfl (Sub.cons rfl rfl (Sub.cons rfl rfl (Sub.cons rfl rfl Sub.nil))))))))
          · rfl
          ·
           intro k Ao co hinv
           have hpl := part_len bs (gE f bs) k
           have hbr := byteAt_range' bs (gE f bs + k)
           refine AW.seq ?_
           refine AW.rseq ?_
           refine Y1 (Yv.move rfl eV) ?_
           refine Y1 (Yv.move rfl eV) ?_
           refine Y1 (Yv.lss rfl eV eV) ?_
           refine nl ?_
           refine AW.cond rfl (fun h14t => ?_) (fun h14f => ?_)
           ·
            try replace h14t := of_decide_eq_true h14t
            refine AW.skip ?_
            refine AW.seq ?_
            refine AW.block ?_
            refine AW.region ?_
            refine Y1 (Yv.move rfl eV) ?_
            refine Y1 (Yv.move rfl eV) ?_
            refine Y1 (Yv.move rfl eV) ?_
            refine Y1 (Yv.move rfl eV) ?_
            refine Y1 (Yv.addN_i64 rfl (E rfl rfl) (E rfl rfl) (fun hg => by omega)) ?_
            rw [show (gE f bs : Int) + (k : Int) = ((gE f bs + k : Nat) : Int) from by omega]
            refine AWL.callT rfl rfl (B rfl) rfl ce_64 (E rfl rfl) (evsC (E rfl rfl) (evsC (E rfl rfl) evs0)) (byteAt64 bs (gE f bs + k) hbs (by omega)) ?_
            rintro t129 S129 rfl
            refine Y1 (Yv.convN_u8 rfl Tryd.underlying3 kd_5 (E rfl rfl) (fun hg => by omega)) ?_
            refine AWL.buildSlice1 rfl rfl (B rfl) rfl el_24 rfl (evsC (E rfl rfl) evs0) (Nat.le_of_ble_eq_true rfl) rfl rfl ?_
            refine AWL.appendRow (i := 3) rfl rfl (B rfl) rfl el_24 (B rfl) rfl (E rfl rfl) (SrcT.sl so_24 (B rfl) (E rfl rfl) rfl) (by unfold maxLen; omega) (by omega) (fun A132 c132 => ?_)
            refine Y1 (Yv.assign rfl eV) ?_
            refine nl ?_
            refine AW.region ?_
            refine Y1 (Yv.move rfl eV) ?_
            refine Y1 (Yv.addN_i64 rfl (E rfl rfl) (E rfl rfl) (fun hg => by omega)) ?_
            refine Y1 (Yv.assign rfl eV) ?_
            refine nl ?_
            have hps := part_succ bs (gE f bs) k
            refine ⟨k + 1, A132, c132, by omega, by omega, Sub.cons rfl rfl (Sub.cons rfl rfl (Sub.cons rfl rfl (Sub.cons rfl rfl (Sub.cons rfl rfl (Sub.cons rfl rfl (Sub.cons rfl (by rw [hps, List.length_append]; rfl) (Sub.cons rfl (by simp) Sub.nil))))))), ?_⟩
            rw [hps, List.map_append, List.length_append]
            rfl
           try replace h14f := of_decide_eq_false h14f
           refine AW.exit ?_
           obtain rfl : k = sizeR f.imm := by omega
           refine AW.freeze 3 13 rfl (B rfl) rfl ?_
           refine AW.region ?_
           refine Y1 (Yv.move rfl eV) ?_
           refine AWL.callT rfl rfl (B rfl) rfl ce_65 (E rfl rfl) (evsC (E rfl rfl) evs0) (signed65 (part bs (gE f bs) (sizeR f.imm)) (by rw [part_len]; omega)) ?_
           rintro t134 S134 rfl
           refine Y1 (Yv.fieldBox rfl fo_23_5 eV) ?_
           refine AWL.storeBox (i := 2) rfl rfl rfl ag_2 rfl (E rfl rfl) (E rfl rfl) rfl rfl (Nat.le_of_ble_eq_true rfl) ?_
           refine nl ?_
           refine ⟨(), trivial, (Sub.cons rfl rfl (Sub.cons rfl rfl (Sub.cons rfl rfl (Sub.cons rfl rfl Sub.nil)))), rfl⟩
         try replace h13f := of_decide_eq_false h13f
         refine AW.skip ?_
         refine ⟨(), trivial, (Sub.cons rfl rfl (Sub.cons rfl rfl (Sub.cons rfl rfl (Sub.cons rfl rfl Sub.nil)))), ?_⟩
         rw [gI, show sizeR f.imm = 0 by omega]
         rfl
        ·
         rintro _ hmid
         refine AW.rseq ?_
         refine Y1 (Yv.loadBoxA rfl ag_23 (i := 2) rfl (E rfl rfl) rfl rfl) ?_
         refine AWL.storeBox (i := 1) rfl rfl rfl ag_23 rfl (E rfl rfl) (E rfl rfl) rfl rfl (Nat.le_of_ble_eq_true rfl) ?_
         refine nl ?_
         refine AW.ret (retI (.cellA (i := 1) rfl ag_23 rfl rfl rfl .nil) ?_)
         rfl

end Go.Proofs.YtjndpakhmgapjaaDoor

namespace Go.Proofs.YtjndpakhmgapjaaDoor
open Go Go.RowKit
set_option linter.unusedVariables false
set_option linter.unnecessarySimpa false
set_option linter.unusedSimpArgs false

set_option maxHeartbeats 400000 in
theorem next63 (b : Nat) (bs : List UInt8) (r : Rd) (hb : bs.length ≤ 1099511627776) (hr : RdOk bs r) :
    ACalls Tryd.prog 58 [.v (.pointer (some ⟨b, 0, none⟩))] [Ent.box b 68 (rdCells bs r)] (fun t_ S => t_ = .v (.int .i64 (nextF bs r).1) ∧ S = [Ent.box b 68 (rdCells bs (nextF bs r).2)]) := by
  unfold RdOk at hr
  refine ACalls.intro Tryd.func58 rfl Tryd.ntmps58 (Nat.le_of_ble_eq_true rfl) rfl fun X w0 => ?_
  refine AW.rseq ?_
  refine Y1 (Yv.assign rfl eV) ?_
  refine nl ?_
  refine AW.seq ?_
  refine AW.rseq ?_
  refine Y1 (Yv.move rfl eV) ?_
  refine Y1 (Yv.nilChk rfl eV) ?_
  refine Y1 (Yv.fieldBox rfl fo_68_2 eV) ?_
  refine Y1 (Yv.loadBox rfl ag_4 (i := 0) rfl (E rfl rfl) rfl) ?_
  refine Y1 (Yv.move rfl eV) ?_
  refine AWL.ygF rfl rfl rfl rfl (B rfl) (Yv.move rfl (E rfl rfl)) ?_
  refine AWL.ygF rfl rfl rfl rfl (B rfl) (Yv.nilChk rfl (Eg rfl rfl id)) ?_
  refine AWL.ygF rfl rfl rfl rfl (B rfl) (Yv.fieldBox rfl fo_68_3 (Eg rfl rfl id)) ?_
  refine AWL.ygF rfl rfl rfl rfl (B rfl) (Yv.loadBox rfl ag_4 (i := 0) rfl (Eg rfl rfl id) rfl) ?_
  refine Y1 (Yv.pickOr (t := .const (.bool true)) rfl (E rfl rfl) (Eg rfl rfl id)) ?_
  refine nl ?_
  refine AW.cond rfl (fun h0t => ?_) (fun h0f => ?_)
  ·
   try replace h0t := of_decide_eq_true h0t
   refine AW.rseq ?_
   refine Y1 (Yv.assign rfl eV) ?_
   refine nl ?_
   refine AW.ret (retI (.tmp rfl .nil) ?_)
   rw [nextF, if_pos h0t]
   exact ⟨rfl, rfl⟩
  try replace h0f := of_decide_eq_false h0f
  refine AW.skip ?_
  refine AW.seq ?_
  refine AW.rseqQ rfl (by kernel_rfl) ?_
  refine AWQ.y rfl rfl (B rfl) (Yv.move rfl (E rfl rfl)) ?_
  refine AWQ.y rfl rfl (B rfl) (Yv.nilChk rfl (E rfl rfl)) ?_
  refine AWQ.y rfl rfl (B rfl) (Yv.fieldBox rfl fo_68_1 (E rfl rfl)) ?_
  refine AWQ.y rfl rfl (B rfl) (Yv.loadBox rfl ag_3 (i := 0) rfl (E rfl rfl) rfl) ?_
  refine AWQ.y rfl rfl (B rfl) (Yv.move rfl (E rfl rfl)) ?_
  refine AWQ.y rfl rfl (B rfl) (Yv.nilChk rfl (E rfl rfl)) ?_
  refine AWQ.y rfl rfl (B rfl) (Yv.fieldBox rfl fo_68_0 (E rfl rfl)) ?_
  refine AWQ.y rfl rfl (B rfl) (Yv.loadBox rfl ag_24 (i := 0) rfl (E rfl rfl) rfl) ?_
  refine AWQ.y rfl rfl (B rfl) (Yv.lenSl rfl so_24 (B rfl) (E rfl rfl) len_u8s) ?_
  refine AWQ.y rfl rfl (B rfl) (Yv.eql rfl (E rfl rfl) (E rfl rfl)) ?_
  refine AWQ.nil ?_
  refine AW.cond rfl (fun h1t => ?_) (fun h1f => ?_)
  ·
   try replace h1t := of_decide_eq_true h1t
   refine AW.rseq ?_
   refine Y1 (Yv.move rfl eV) ?_
   refine Y1 (Yv.nilChk rfl eV) ?_
   refine Y1 (Yv.fieldBox rfl fo_68_2 eV) ?_
   refine AWL.storeBox (i := 0) rfl rfl rfl ag_4 rfl (E rfl rfl) (E rfl rfl) rfl rfl (Nat.le_of_ble_eq_true rfl) ?_
   refine nl ?_
   refine AW.rseq ?_
   refine Y1 (Yv.assign rfl eV) ?_
   refine nl ?_
   refine AW.ret (retI (.tmp rfl .nil) ?_)
   rw [nextF, if_neg (ne_true_of_eq_false h0f), if_pos (by omega)]
   exact ⟨rfl, rfl⟩
  try replace h1f := of_decide_eq_false h1f
  refine AW.skip ?_
  refine AW.rseq ?_
  refine Y1 (Yv.move rfl eV) ?_
  refine Y1 (Yv.nilChk rfl eV) ?_
  refine Y1 (Yv.fieldBox rfl fo_68_1 eV) ?_
  refine Y1 (Yv.loadBox rfl ag_3 (i := 0) rfl (E rfl rfl) rfl) ?_
  refine Y1 (Yv.addN_i64 rfl (E rfl rfl) (E rfl rfl) (fun hg => by omega)) ?_
  refine Y1 (Yv.nilChk rfl eV) ?_
  refine Y1 (Yv.fieldBox rfl fo_68_1 eV) ?_
  refine AWL.storeBox (i := 0) rfl rfl rfl ag_3 rfl (E rfl rfl) (E rfl rfl) rfl rfl (Nat.le_of_ble_eq_true rfl) ?_
  refine nl ?_
  refine AW.rseqQ rfl (by kernel_rfl) ?_
  refine AWQ.y rfl rfl (B rfl) (Yv.move rfl (E rfl rfl)) ?_
  refine AWQ.y rfl rfl (B rfl) (Yv.nilChk rfl (E rfl rfl)) ?_
  refine AWQ.y rfl rfl (B rfl) (Yv.fieldBox rfl fo_68_0 (E rfl rfl)) ?_
  refine AWQ.y rfl rfl (B rfl) (Yv.loadBox rfl ag_24 (i := 0) rfl (E rfl rfl) rfl) ?_
  refine AWQ.y rfl rfl (B rfl) (Yv.move rfl (E rfl rfl)) ?_
  refine AWQ.y rfl rfl (B rfl) (Yv.nilChk rfl (E rfl rfl)) ?_
  refine AWQ.y rfl rfl (B rfl) (Yv.fieldBox rfl fo_68_1 (E rfl rfl)) ?_
  refine AWQ.y rfl rfl (B rfl) (Yv.loadBox rfl ag_3 (i := 0) rfl (E rfl rfl) rfl) ?_
  refine AWQ.y rfl rfl (B rfl) (Yv.subN_i64 rfl (E rfl rfl) (E rfl rfl) (fun hg => by omega)) ?_
  refine AWQ.y rfl rfl (B rfl) (Yv.indexSl (j := r.at_) rfl ss_24 (B rfl) (E rfl rfl) (E rfl rfl) (fun hg => ⟨by omega, by simp only [len_u8s]; omega⟩)) ?_
  refine AWQ.y rfl rfl (B rfl) (Yv.loadRp rfl ag_5 (E rfl rfl) (fun hg => u8_get (by omega))) ?_
  refine AWQ.y rfl rfl (B rfl) (Yv.convU8 rfl Tryd.underlying5 kd_3 rfl (E rfl rfl)) ?_
  refine AWQ.y rfl rfl (B rfl) (Yv.assign rfl (E rfl rfl)) ?_
  refine AWQ.nil ?_
  refine AW.ret (retI (.tmp rfl .nil) ?_)
  rw [nextF, if_neg (ne_true_of_eq_false h0f), if_neg (by omega)]
  exact ⟨rfl, rfl⟩

set_option maxHeartbeats 400000 in
theorem must64 (b : Nat) (bs : List UInt8) (r : Rd) (is : Bool) :
    ACalls Tryd.prog 59 [.v (.pointer (some ⟨b, 0, none⟩)), .v (.bool is)] [Ent.box b 68 (rdCells bs r)] (fun t_ S => S = [Ent.box b 68 (rdCells bs (mustF r is))]) := by
  refine ACalls.intro Tryd.func59 rfl Tryd.ntmps59 (Nat.le_of_ble_eq_true rfl) rfl fun X w0 => ?_
  refine AW.rseq ?_
  refine Y1 (Yv.move rfl eV) ?_
  refine Y1 (Yv.nilChk rfl eV) ?_
  refine Y1 (Yv.fieldBox rfl fo_68_2 eV) ?_
  refine Y1 (Yv.loadBox rfl ag_4 (i := 0) rfl (E rfl rfl) rfl) ?_
  refine Y1 (Yv.not rfl eV) ?_
  refine Y1 (Yv.move rfl eV) ?_
  refine AWL.ygT rfl rfl rfl rfl (B rfl) (Yv.move rfl (E rfl rfl)) ?_
  refine AWL.ygT rfl rfl rfl rfl (B rfl) (Yv.not rfl (Eg rfl rfl id)) ?_
  refine Y1 (Yv.pickAnd rfl (E rfl rfl) (Eg rfl rfl id)) ?_
  refine nl ?_
  refine AW.cond rfl (fun h0t => ?_) (fun h0f => ?_)
  ·
   try replace h0t := of_decide_eq_true h0t
   refine AW.region ?_
   refine Y1 (Yv.move rfl eV) ?_
   refine Y1 (Yv.nilChk rfl eV) ?_
   refine Y1 (Yv.fieldBox rfl fo_68_3 eV) ?_
   refine AWL.storeBox (i := 0) rfl rfl rfl ag_4 rfl (E rfl rfl) (E rfl rfl) rfl rfl (Nat.le_of_ble_eq_true rfl) ?_
   refine nl ?_
   refine retN .nil ?_
   rw [mustF, if_pos h0t] <;> rfl
  try replace h0f := of_decide_eq_false h0f
  refine AW.skip ?_
  refine retN .nil ?_
  rw [mustF, if_neg (ne_true_of_eq_false h0f)] <;> rfl

set_option maxHeartbeats 400000 in
theorem split66 (x : Int) (h0 : 0 ≤ x) (h1 : x ≤ 255) :
    ACalls Tryd.prog 61 [.v (.int .i64 x)] [] (fun t_ S => t_ = rxT (splitF x)) := by
  refine ACalls.intro Tryd.func61 rfl Tryd.ntmps61 (Nat.le_of_ble_eq_true rfl) rfl fun X w0 => ?_
  refine AW.rseq ?_
  refine AWL.allocOp rfl rfl (B rfl) rfl zc_87 (fun b2 => ?_)
  refine nl ?_
  refine AW.rseq ?_
  refine Y1 (Yv.move rfl eV) ?_
  refine Y1 (Yv.shrC 8 (by decide) (by decide) (by decide) rfl (E rfl rfl) (E rfl rfl)) ?_
  refine Y1 (Yv.andN_i64 1 2 (by decide) (by decide) (by decide) rfl (E rfl rfl) (E rfl rfl) (fun hg => ⟨by omega, by omega⟩)) ?_
  refine Y1 (Yv.move rfl eV) ?_
  refine Y1 (Yv.shrC 4 (by decide) (by decide) (by decide) rfl (E rfl rfl) (E rfl rfl)) ?_
  refine Y1 (Yv.andN_i64 1 2 (by decide) (by decide) (by decide) rfl (E rfl rfl) (E rfl rfl) (fun hg => ⟨by omega, by omega⟩)) ?_
  refine Y1 (Yv.shlCN_i64 8 (by decide) (by decide) rfl (E rfl rfl) (E rfl rfl) (fun hg => by omega)) ?_
  refine Y1 (Yv.move rfl eV) ?_
  refine Y1 (Yv.andN_i64 1 2 (by decide) (by decide) (by decide) rfl (E rfl rfl) (E rfl rfl) (fun hg => ⟨by omega, by omega⟩)) ?_
  refine Y1 (Yv.shlCN_i64 8 (by decide) (by decide) rfl (E rfl rfl) (E rfl rfl) (fun hg => by omega)) ?_
  refine Y1 (Yv.buildS rfl sh_87 (evpC (E rfl rfl) (evpC (E rfl rfl) (evpC (E rfl rfl) evp0))) (fun _ => rfl)) ?_
  refine AWL.storeBox (i := 0) rfl rfl rfl ag_87 rfl (E rfl rfl) (E rfl rfl) rfl rfl (Nat.le_of_ble_eq_true rfl) ?_
  refine nl ?_
  refine AW.ret (retI (.cellA (i := 0) rfl ag_87 rfl rfl rfl .nil) ?_)
  rfl

set_option maxHeartbeats 1000000 in
theorem imm68 (b : Nat) (bs : List UInt8) (r : Rd) (hb : bs.length ≤ 1099511627776) (hr : RdOk bs r) (k : Nat) (hk : k = 1 ∨ k = 4 ∨ k = 8) :
    ACalls Tryd.prog 63 [.v (.pointer (some ⟨b, 0, none⟩)), .v (.int .i64 (k : Int))] [Ent.box b 68 (rdCells bs r)] (fun t_ S => t_ = .v (.int .i64 (immV bs r k)) ∧ S = [Ent.box b 68 (rdCells bs (immD bs r k))]) := by
  refine ACalls.intro Tryd.func63 rfl Tryd.ntmps63 (Nat.le_of_ble_eq_true rfl) rfl fun X w0 => ?_
  refine AW.rseq ?_
  refine Y1 (Yv.assign rfl eV) ?_
  refine nl ?_
  refine AW.rseq ?_
  refine Y1 (Yv.assign rfl eV) ?_
  refine nl ?_
  refine AW.seq ?_
  refine AW.rseq ?_
  refine Y1 (Yv.move rfl eV) ?_
  refine Y1 (Yv.move rfl eV) ?_
  refine nl ?_
  refine AW.block ?_
  refine AW.loop (fun (j : Nat) => [(0, true, .v (.pointer (some ⟨b, 0, none⟩))), (1, true, .v (.int .i64 (k : Int))), (5, true, .v (.int .u64 (immS bs r j).1)), (8, true, .v (.int .i64 (k : Int))), (9, true, .v (.int .i64 (j : Int)))]) (fun (j : Nat) => [Ent.box b 68 (rdCells bs (immS bs r j).2)]) (fun (j : Nat) => j ≤ k) (fun (j : Nat) => k - j) 0 ?_ ?_ ?_ ?_
  · exact Nat.zero_le _
  · exact (Sub.cons rfl rfl (Sub.cons rfl rfl (Sub.cons rfl rfl (Sub.cons rfl rfl (Sub.cons rfl rfl Sub.nil)))))
  · rfl
  ·
   intro j hinv
   refine AW.rseq ?_
   refine Y1 (Yv.lss rfl eV eV) ?_
   refine nl ?_
   refine AW.seq ?_
   refine AW.cond rfl (fun h0t => ?_) (fun h0f => ?_)
   ·
    try replace h0t := of_decide_eq_true h0t
    refine AW.skip ?_
    refine AW.seq ?_
    refine AW.block ?_
    refine AW.rseq ?_
    refine Y1 (Yv.move rfl eV) ?_
    refine Y1 (Yv.assign rfl eV) ?_
    refine nl ?_
    obtain ⟨hv0, hv1⟩ := next_range bs (immS bs r j).2
    obtain ⟨hn0, hn1⟩ := imm_range bs r j
    refine AW.region ?_
    refine Y1 (Yv.move rfl eV) ?_
    refine Y1 (Yv.move rfl eV) ?_
    refine C1 rfl ce_58 (E rfl rfl) (evsC (E rfl rfl) evs0) (S1 := [Ent.box b 68 (rdCells bs (immS bs r j).2)]) (S2 := _) rfl (next63 b bs (immS bs r j).2 hb (imm_ok hr j)) ?_
    rintro t14 S14 ⟨rfl, rfl⟩
    refine Y1 (Yv.convN_u64 rfl Tryd.underlying3 kd_78 (E rfl rfl) (fun hg => by omega)) ?_
    refine Y1 (Yv.move rfl eV) ?_
    refine Y1 (Yv.mulN_i64 rfl (E rfl rfl) (E rfl rfl) (fun hg => by omega)) ?_
    refine Y1 (Yv.shl rfl (E rfl rfl) (E rfl rfl) (fun hg => by omega)) ?_
    refine Y1 (Yv.bits rfl rfl (E rfl rfl) (E rfl rfl)) ?_
    rw [or_shl (by omega) hn0 hn1 hv0 hv1]
    refine Y1 (Yv.assign rfl eV) ?_
    refine nl ?_
    refine AW.region ?_
    refine Y1 (Yv.addN_i64 rfl (E rfl rfl) (E rfl rfl) (fun hg => by omega)) ?_
    refine Y1 (Yv.move rfl eV) ?_
    refine nl ?_
    exact ⟨j + 1, by omega, by omega, Sub.cons rfl rfl (Sub.cons rfl rfl (Sub.cons rfl rfl (Sub.cons rfl rfl (Sub.cons rfl (by simp) Sub.nil)))), rfl⟩
   try replace h0f := of_decide_eq_false h0f
   refine AW.exit ?_
   obtain rfl : j = k := by omega
   obtain ⟨hn0, hn1⟩ := imm_range bs r j
   refine AW.rseq ?_
   refine Y1 (Yv.move rfl eV) ?_
   refine Y1 (Yv.mulN_i64 rfl (E rfl rfl) (E rfl rfl) (fun hg => by omega)) ?_
   refine Y1 (Yv.subN_i64 rfl (E rfl rfl) (E rfl rfl) (fun hg => by omega)) ?_
   refine Y1 (Yv.assign rfl eV) ?_
   refine nl ?_
   refine AW.rseq ?_
   refine Y1 (Yv.move rfl eV) ?_
   refine Y1 (Yv.move rfl eV) ?_
   refine Y1 (Yv.shl rfl (E rfl rfl) (E rfl rfl) (fun hg => by omega)) ?_
   refine Y1 (Yv.conv rfl Tryd.underlying78 kd_2 (E rfl rfl)) ?_
   refine Y1 (Yv.move rfl eV) ?_
   refine Y1 (Yv.shr rfl (E rfl rfl) (E rfl rfl) (fun hg => by omega)) ?_
   refine Y1 (Yv.assign rfl eV) ?_
   refine nl ?_
   refine AW.ret (retI (.tmp rfl .nil) ?_)
   refine ⟨?_, rfl⟩
   show T.v (.int .i64 _) = T.v (.int .i64 _)
   rw [immV, ← sgn_eq hk hn0 hn1]

set_option maxHeartbeats 400000 in
theorem two78 (b : Nat) (bs : List UInt8) (r : Rd) (hb : bs.length ≤ 1099511627776) (hr : RdOk bs r) (x : Rx) :
    ACalls Tryd.prog 78 [.v (.pointer (some ⟨b, 0, none⟩)), rxT x] [Ent.box b 68 (rdCells bs r)] (fun t_ S => t_ = .tup [.v (.int .i64 (twoV bs x r).1), .v (.int .i64 (twoV bs x r).2)] ∧ ∃ E, S = Ent.box b 68 (rdCells bs (twoD bs r)) :: E) := by
  obtain ⟨hx0, hx1⟩ := next_range bs r
  refine ACalls.intro Tryd.func78 rfl Tryd.ntmps78 (Nat.le_of_ble_eq_true rfl) rfl fun X w0 => ?_
  refine AW.rseq ?_
  refine AWL.boxOp rfl rfl (B rfl) rfl (E rfl rfl) rfl (fun b3 => ?_)
  refine Y1 (Yv.assign rfl eV) ?_
  refine Y1 (Yv.assign rfl eV) ?_
  refine nl ?_
  refine AW.rseq ?_
  refine Y1 (Yv.move rfl eV) ?_
  refine C1 rfl ce_58 (E rfl rfl) (evsC (E rfl rfl) evs0) (S1 := [Ent.box b 68 (rdCells bs r)]) (S2 := _) rfl (next63 b bs r hb hr) ?_
  rintro t8 S8 ⟨rfl, rfl⟩
  refine Y1 (Yv.assign rfl eV) ?_
  refine nl ?_
  refine AW.rseq ?_
  refine Y1 (Yv.move rfl eV) ?_
  refine Y1 (Yv.move rfl eV) ?_
  refine Y1 (Yv.shrC 64 (by decide) (by decide) (by decide) rfl (E rfl rfl) (E rfl rfl)) ?_
  refine Y1 (Yv.eql rfl eV eV) ?_
  refine C1 rfl ce_59 (E rfl rfl) (evsC (E rfl rfl) (evsC (E rfl rfl) evs0)) (S1 := [Ent.box b 68 (rdCells bs (nextF bs r).2)]) (S2 := _) rfl (must64 b bs (nextF bs r).2 (decide ((nextF bs r).1 / 64 = 3))) ?_
  rintro t13 S13 rfl
  refine nl ?_
  refine AW.rseqQ rfl (by kernel_rfl) ?_
  refine AWQ.y rfl rfl (B rfl) (Yv.fieldBox rfl fo_87_1 (E rfl rfl)) ?_
  refine AWQ.y rfl rfl (B rfl) (Yv.loadBox rfl ag_3 (i := 1) rfl (E rfl rfl) rfl) ?_
  refine AWQ.y rfl rfl (B rfl) (Yv.move rfl (E rfl rfl)) ?_
  refine AWQ.y rfl rfl (B rfl) (Yv.shrC 8 (by decide) (by decide) (by decide) rfl (E rfl rfl) (E rfl rfl)) ?_
  refine AWQ.y rfl rfl (B rfl) (Yv.andN_i64 3 8 (by decide) (by decide) (by decide) rfl (E rfl rfl) (E rfl rfl) (fun hg => ⟨by omega, by omega⟩)) ?_
  refine AWQ.y rfl rfl (B rfl) (Yv.bits rfl rfl (E rfl rfl) (E rfl rfl)) ?_
  refine AWQ.y rfl rfl (B rfl) (Yv.fieldBox rfl fo_87_2 (E rfl rfl)) ?_
  refine AWQ.y rfl rfl (B rfl) (Yv.loadBox rfl ag_3 (i := 1) rfl (E rfl rfl) rfl) ?_
  refine AWQ.y rfl rfl (B rfl) (Yv.move rfl (E rfl rfl)) ?_
  refine AWQ.y rfl rfl (B rfl) (Yv.andN_i64 3 8 (by decide) (by decide) (by decide) rfl (E rfl rfl) (E rfl rfl) (fun hg => ⟨by omega, by omega⟩)) ?_
  refine AWQ.y rfl rfl (B rfl) (Yv.bits rfl rfl (E rfl rfl) (E rfl rfl)) ?_
  refine AWQ.y rfl rfl (B rfl) (Yv.assign rfl (E rfl rfl)) ?_
  refine AWQ.y rfl rfl (B rfl) (Yv.assign rfl (E rfl rfl)) ?_
  refine AWQ.nil ?_
  refine AW.ret (retI (.tmp rfl (.tmp rfl .nil)) ?_)
  exact ⟨rfl, _, rfl⟩

set_option maxHeartbeats 400000 in
theorem one76 (b : Nat) (bs : List UInt8) (r : Rd) (hb : bs.length ≤ 1099511627776) (hr : RdOk bs r) (x : Rx) :
    ACalls Tryd.prog 76 [.v (.pointer (some ⟨b, 0, none⟩)), rxT x] [Ent.box b 68 (rdCells bs r)] (fun t_ S => t_ = .tup [.v (.int .i64 (oneV bs x r).1), .v (.int .i64 (oneV bs x r).2)] ∧ ∃ E, S = Ent.box b 68 (rdCells bs (oneD bs x r)) :: E) := by
  refine ACalls.intro Tryd.func76 rfl Tryd.ntmps76 (Nat.le_of_ble_eq_true rfl) rfl fun X w0 => ?_
  refine AW.rseq ?_
  refine AWL.boxOp rfl rfl (B rfl) rfl (E rfl rfl) rfl (fun b3 => ?_)
  refine Y1 (Yv.assign rfl eV) ?_
  refine Y1 (Yv.assign rfl eV) ?_
  refine nl ?_
  refine AW.rseq ?_
  refine Y1 (Yv.move rfl eV) ?_
  refine Y1 (Yv.fieldBox rfl fo_87_1 eV) ?_
  refine Y1 (Yv.loadBox rfl ag_3 (i := 1) rfl (E rfl rfl) rfl) ?_
  refine Y1 (Yv.eql rfl eV eV) ?_
  refine C1 rfl ce_59 (E rfl rfl) (evsC (E rfl rfl) (evsC (E rfl rfl) evs0)) (S1 := [Ent.box b 68 (rdCells bs r)]) (S2 := _) rfl (must64 b bs r (decide (x.reg = 0))) ?_
  rintro t10 S10 rfl
  refine nl ?_
  refine AW.rseq ?_
  refine Y1 (Yv.move rfl eV) ?_
  refine Y1 (Yv.loadBoxA rfl ag_87 (i := 1) rfl (E rfl rfl) rfl rfl) ?_
  refine C1 rfl ce_78 (E rfl rfl) (evsC (E rfl rfl) (evsC (E rfl rfl) evs0)) (S1 := [Ent.box b 68 (rdCells bs (mustF r (decide (x.reg = 0))))]) (S2 := _) rfl (two78 b bs (mustF r (decide (x.reg = 0))) hb (must_ok hr _) x) ?_
  rintro t14 S14 ⟨rfl, E14, rfl⟩
  refine AWL.tuck ?_
  refine Y1 (Yv.move rfl eV) ?_
  refine Y1 (Yv.extract rfl eV rfl) ?_
  refine Y1 (Yv.extract rfl eV rfl) ?_
  refine Y1 (Yv.assign rfl eV) ?_
  refine Y1 (Yv.assign rfl eV) ?_
  refine nl ?_
  refine AW.rseq ?_
  refine Y1 (Yv.move rfl eV) ?_
  refine Y1 (Yv.move rfl eV) ?_
  refine Y1 (Yv.assign rfl eV) ?_
  refine Y1 (Yv.assign rfl eV) ?_
  refine nl ?_
  refine AW.ret (retI (.tmp rfl (.tmp rfl .nil)) ?_)
  exact ⟨rfl, _, rfl⟩

set_option maxHeartbeats 1000000 in
theorem mem74 (b : Nat) (bs : List UInt8) (r : Rd) (hb : bs.length ≤ 1099511627776) (hr : RdOk bs r) (x : Rx) :
    ACalls Tryd.prog 74 [.v (.pointer (some ⟨b, 0, none⟩)), rxT x] [Ent.box b 68 (rdCells bs r)] (fun t_ S => t_ = .tup [.v (.int .i64 (memV bs x r).1), .v (.int .i64 (memV bs x r).2.1), .v (.int .i64 (memV bs x r).2.2)] ∧ ∃ E, S = Ent.box b 68 (rdCells bs (memD bs r)) :: E) := by
  obtain ⟨hx0, hx1⟩ := next_range bs r
  have hok1 : RdOk bs (memD1 bs r) := must_ok (next_ok hr) _
  have hok2 : RdOk bs (memD2 bs r) := by
    unfold memD2
    split
    · exact must_ok (next_ok hok1) _
    · exact hok1
  refine ACalls.intro Tryd.func74 rfl Tryd.ntmps74 (Nat.le_of_ble_eq_true rfl) rfl fun X w0 => ?_
  refine AW.rseq ?_
  refine AWL.boxOp rfl rfl (B rfl) rfl (E rfl rfl) rfl (fun b3 => ?_)
  refine Y1 (Yv.assign rfl eV) ?_
  refine Y1 (Yv.assign rfl eV) ?_
  refine Y1 (Yv.assign rfl eV) ?_
  refine nl ?_
  refine AW.rseq ?_
  refine Y1 (Yv.move rfl eV) ?_
  refine C1 rfl ce_58 (E rfl rfl) (evsC (E rfl rfl) evs0) (S1 := [Ent.box b 68 (rdCells bs r)]) (S2 := _) rfl (next63 b bs r hb hr) ?_
  rintro t9 S9 ⟨rfl, rfl⟩
  refine Y1 (Yv.assign rfl eV) ?_
  refine nl ?_
  refine AW.rseq ?_
  refine Y1 (Yv.move rfl eV) ?_
  refine Y1 (Yv.move rfl eV) ?_
  refine Y1 (Yv.shrC 64 (by decide) (by decide) (by decide) rfl (E rfl rfl) (E rfl rfl)) ?_
  refine Y1 (Yv.eql rfl eV eV) ?_
  refine C1 rfl ce_59 (E rfl rfl) (evsC (E rfl rfl) (evsC (E rfl rfl) evs0)) (S1 := [Ent.box b 68 (rdCells bs (nextF bs r).2)]) (S2 := _) rfl (must64 b bs (nextF bs r).2 (decide ((nextF bs r).1 / 64 = 2))) ?_
  rintro t14 S14 rfl
  refine nl ?_
  refine AW.mid (α := Unit) (fun _ => [(0, true, .v (.pointer (some ⟨b, 0, none⟩))), (3, true, .v (.pointer (some ⟨b3, 0, none⟩))), (7, true, .v (.int .i64 (nextF bs r).1))]) (fun _ => [Ent.box b 68 (rdCells bs (memD2 bs r)), .box b3 87 (rxCells x)]) (fun _ => True) ?_ ?_
  ·
   refine AW.rseq ?_
   refine Y1 (Yv.move rfl eV) ?_
   refine Y1 (Yv.andN_i64 3 8 (by decide) (by decide) (by decide) rfl (E rfl rfl) (E rfl rfl) (fun hg => ⟨by omega, by omega⟩)) ?_
   refine Y1 (Yv.eql rfl eV eV) ?_
   refine nl ?_
   refine AW.cond rfl (fun h0t => ?_) (fun h0f => ?_)
   ·
    try replace h0t := of_decide_eq_true h0t
    replace h0t : (nextF bs r).1 % 8 = 4 := h0t
    refine AW.region ?_
    refine Y1 (Yv.move rfl eV) ?_
    refine Y1 (Yv.move rfl eV) ?_
    refine C1 rfl ce_58 (E rfl rfl) (evsC (E rfl rfl) evs0) (S1 := [Ent.box b 68 (rdCells bs (memD1 bs r))]) (S2 := _) rfl (next63 b bs (memD1 bs r) hb hok1) ?_
    rintro t20 S20 ⟨rfl, rfl⟩
    refine Y1 (Yv.eql rfl eV eV) ?_
    refine C1 rfl ce_59 (E rfl rfl) (evsC (E rfl rfl) (evsC (E rfl rfl) evs0)) (S1 := [Ent.box b 68 (rdCells bs (nextF bs (memD1 bs r)).2)]) (S2 := _) rfl (must64 b bs (nextF bs (memD1 bs r)).2 (decide ((nextF bs (memD1 bs r)).1 = 36))) ?_
    rintro t22 S22 rfl
    refine nl ?_
    refine ⟨(), trivial, (Sub.cons rfl rfl (Sub.cons rfl rfl (Sub.cons rfl rfl Sub.nil))), ?_⟩
    rw [memD2, if_pos h0t]
    rfl
   try replace h0f := of_decide_eq_false h0f
   replace h0f : ¬ (nextF bs r).1 % 8 = 4 := h0f
   refine AW.skip ?_
   refine ⟨(), trivial, (Sub.cons rfl rfl (Sub.cons rfl rfl (Sub.cons rfl rfl Sub.nil))), ?_⟩
   rw [memD2, if_neg h0f]
   rfl
  ·
   rintro _ hmid
   refine AW.rseqH (HeldBox b3 (rxVals x)) rfl (tells_box (k := 1) rfl) ?_
   refine AWH.tk (i := 0) rfl rfl rfl (B rfl) (heldAll (freeField rfl fo_87_1 (E rfl rfl))) ?_
   refine AWH.tk (i := 1) rfl rfl rfl (B rfl) (heldLoad rfl ag_3 (E rfl rfl) rfl) ?_
   refine AWH.tk (i := 2) rfl rfl rfl (B rfl) (heldAll (freeMove rfl (E rfl rfl))) ?_
   refine AWH.tk (i := 3) rfl rfl rfl (B rfl) (heldAll (freeShrC 8 (by decide) (by decide) (by decide) rfl (E rfl rfl) (E rfl rfl))) ?_
   refine AWH.tk (i := 4) rfl rfl rfl (B rfl) (heldAll (freeAndN_i64 3 8 (by decide) (by decide) (by decide) rfl (E rfl rfl) (E rfl rfl) ⟨by omega, by omega⟩)) ?_
   refine AWH.tk (i := 5) rfl rfl rfl (B rfl) (heldAll (freeBits rfl rfl (E rfl rfl) (E rfl rfl))) ?_
   refine AWH.tk (i := 6) rfl rfl rfl (B rfl) (heldAll (freeField rfl fo_87_2 (E rfl rfl))) ?_
   refine AWH.tk (i := 7) rfl rfl rfl (B rfl) (heldLoad rfl ag_3 (E rfl rfl) rfl) ?_
   refine AWH.tk (i := 8) rfl rfl rfl (B rfl) (heldAll (freeMove rfl (E rfl rfl))) ?_
   refine AWH.tk (i := 9) rfl rfl rfl (B rfl) (heldAll (freeAndN_i64 3 8 (by decide) (by decide) (by decide) rfl (E rfl rfl) (E rfl rfl) ⟨by omega, by omega⟩)) ?_
   refine AWH.tk (i := 10) rfl rfl rfl (B rfl) (heldAll (freeBits rfl rfl (E rfl rfl) (E rfl rfl))) ?_
   refine AWH.one (i := 11) (by kernel_rfl) rfl ?_
   refine Y1 (Yv.move rfl eV) ?_
   refine tb 1 rfl ?_
   refine AWH.one (i := 12) (by kernel_rfl) rfl ?_
   refine C1 rfl ce_63 (E rfl rfl) (evsC (E rfl rfl) (evsC (E rfl rfl) evs0)) (S1 := [Ent.box b 68 (rdCells bs (memD2 bs r))]) (S2 := _) rfl (imm68 b bs (memD2 bs r) hb hok2 4 (.inr (.inl rfl))) ?_
   rintro t35 S35 ⟨rfl, rfl⟩
   refine tb 1 rfl ?_
   refine AWH.one (i := 13) (by kernel_rfl) rfl ?_
   refine Y1 (Yv.assign rfl eV) ?_
   refine tb 1 rfl ?_
   refine AWH.one (i := 14) (by kernel_rfl) rfl ?_
   refine Y1 (Yv.assign rfl eV) ?_
   refine tb 1 rfl ?_
   refine AWH.one (i := 15) (by kernel_rfl) rfl ?_
   refine Y1 (Yv.assign rfl eV) ?_
   refine tb 1 rfl ?_
   refine AWH.done (by kernel_rfl) ?_
   refine AW.ret (retI (.tmp rfl (.tmp rfl (.tmp rfl .nil))) ?_)
   exact ⟨rfl, _, rfl⟩

end Go.Proofs.YtjndpakhmgapjaaDoor

namespace Go.Proofs.YtjndpakhmgapjaaDoor
open Go Go.RowKit
set_option linter.unusedVariables false
set_option linter.unnecessarySimpa false
set_option linter.unusedSimpArgs false

set_option maxHeartbeats 1000000 in
theorem moved75 (b : Nat) (bs : List UInt8) (r : Rd) (hb : bs.length ≤ 1099511627776) (hr : RdOk bs r) (x : Rx) :
    ACalls Tryd.prog 75 [.v (.pointer (some ⟨b, 0, none⟩)), rxT x] [Ent.box b 68 (rdCells bs r)] (fun t_ S => t_ = insT (movedR bs x r).1 ∧ ∃ E, S = Ent.box b 68 (rdCells bs (movedR bs x r).2) :: E) := by
  refine ACalls.intro Tryd.func75 rfl Tryd.ntmps75 (Nat.le_of_ble_eq_true rfl) rfl fun X w0 => ?_
  refine AW.rseq ?_
  refine AWL.boxOp rfl rfl (B rfl) rfl (E rfl rfl) rfl (fun b3 => ?_)
  refine AWL.allocOp rfl rfl (B rfl) rfl zc_23 (fun b4 => ?_)
  refine nl ?_
  refine AW.seq ?_
  refine AW.rseqQ rfl (by kernel_rfl) ?_
  refine AWQ.y rfl rfl (B rfl) (Yv.move rfl (E rfl rfl)) ?_
  refine AWQ.y rfl rfl (B rfl) (Yv.nilChk rfl (E rfl rfl)) ?_
  refine AWQ.y rfl rfl (B rfl) (Yv.fieldBox rfl fo_68_1 (E rfl rfl)) ?_
  refine AWQ.y rfl rfl (B rfl) (Yv.loadBox rfl ag_3 (i := 0) rfl (E rfl rfl) rfl) ?_
  refine AWQ.y rfl rfl (B rfl) (Yv.move rfl (E rfl rfl)) ?_
  refine AWQ.y rfl rfl (B rfl) (Yv.nilChk rfl (E rfl rfl)) ?_
  refine AWQ.y rfl rfl (B rfl) (Yv.fieldBox rfl fo_68_0 (E rfl rfl)) ?_
  refine AWQ.y rfl rfl (B rfl) (Yv.loadBox rfl ag_24 (i := 0) rfl (E rfl rfl) rfl) ?_
  refine AWQ.y rfl rfl (B rfl) (Yv.lenSl rfl so_24 (B rfl) (E rfl rfl) len_u8s) ?_
  refine AWQ.y rfl rfl (B rfl) (Yv.lss rfl (E rfl rfl) (E rfl rfl)) ?_
  refine AWQ.y rfl rfl (B rfl) (Yv.move rfl (E rfl rfl)) ?_
  refine AWQ.ygT rfl rfl rfl rfl (B rfl) (Yv.move rfl (E rfl rfl)) ?_
  refine AWQ.ygT rfl rfl rfl rfl (B rfl) (Yv.nilChk rfl (Eg rfl rfl id)) ?_
  refine AWQ.ygT rfl rfl rfl rfl (B rfl) (Yv.fieldBox rfl fo_68_0 (Eg rfl rfl id)) ?_
  refine AWQ.ygT rfl rfl rfl rfl (B rfl) (Yv.loadBox rfl ag_24 (i := 0) rfl (Eg rfl rfl id) rfl) ?_
  refine AWQ.ygT rfl rfl rfl rfl (B rfl) (Yv.move rfl (E rfl rfl)) ?_
  refine AWQ.ygT rfl rfl rfl rfl (B rfl) (Yv.nilChk rfl (Eg rfl rfl id)) ?_
  refine AWQ.ygT rfl rfl rfl rfl (B rfl) (Yv.fieldBox rfl fo_68_1 (Eg rfl rfl id)) ?_
  refine AWQ.ygT rfl rfl rfl rfl (B rfl) (Yv.loadBox rfl ag_3 (i := 0) rfl (Eg rfl rfl id) rfl) ?_
  refine AWQ.ygT rfl rfl rfl rfl (B rfl) (Yv.indexSl rfl ss_24 (B rfl) (Eg rfl rfl id) (Eg rfl rfl id) (fun hg => ⟨rfl, (by first | omega | (simp only [len_u8s, len_ints]; omega) | (simp only [len_u8s, len_ints]; simp only [Bool.and_eq_true, Bool.or_eq_false_iff, Bool.not_eq_true', Bool.not_eq_false', decide_eq_true_eq, decide_eq_false_iff_not] at hg; omega))⟩)) ?_
  refine AWQ.ygT rfl rfl rfl rfl (B rfl) (Yv.loadRp rfl ag_5 (Eg rfl rfl id) (fun hg => u8_get (by simp only [Bool.true_and, decide_eq_true_eq] at hg; omega))) ?_
  refine AWQ.ygT rfl rfl rfl rfl (B rfl) (Yv.shrC 64 (by decide) (by decide) (by decide) rfl (Eg rfl rfl id) (E rfl rfl)) ?_
  refine AWQ.ygT rfl rfl rfl rfl (B rfl) (Yv.eql rfl (Eg rfl rfl id) (E rfl rfl)) ?_
  refine AWQ.y rfl rfl (B rfl) (Yv.pickAnd rfl (E rfl rfl) (Eg rfl rfl id)) ?_
  refine AWQ.nil ?_
  refine AW.cond rfl (fun h0t => ?_) (fun h0f => ?_)
  ·
   try replace h0t := of_decide_eq_true h0t
   refine AW.rseq ?_
   refine Y1 (Yv.move rfl eV) ?_
   refine Y1 (Yv.loadBoxA rfl ag_87 (i := 1) rfl (E rfl rfl) rfl rfl) ?_
   refine C1 rfl ce_74 (E rfl rfl) (evsC (E rfl rfl) (evsC (E rfl rfl) evs0)) (S1 := [Ent.box b 68 (rdCells bs r)]) (S2 := _) rfl (mem74 b bs r hb hr x) ?_
   rintro t37 S37 ⟨rfl, E37, rfl⟩
   refine AWL.tuck ?_
   refine Y1 (Yv.move rfl eV) ?_
   refine Y1 (Yv.extract rfl eV rfl) ?_
   refine Y1 (Yv.extract rfl eV rfl) ?_
   refine Y1 (Yv.extract rfl eV rfl) ?_
   refine Y1 (Yv.assign rfl eV) ?_
   refine Y1 (Yv.assign rfl eV) ?_
   refine Y1 (Yv.assign rfl eV) ?_
   refine nl ?_
   refine AW.rseq ?_
   refine Y1 (Yv.move rfl eV) ?_
   refine Y1 (Yv.move rfl eV) ?_
   refine Y1 (Yv.move rfl eV) ?_
   refine Y1 (Yv.buildS rfl sh_23 (evpC (E rfl rfl) (evpC (E rfl rfl) (evpC (E rfl rfl) (evpC (E rfl rfl) (evpC (E rfl rfl) evp0))))) (fun _ => rfl)) ?_
   refine AWL.storeBox (i := 2) rfl rfl rfl ag_23 rfl (E rfl rfl) (E rfl rfl) rfl rfl (Nat.le_of_ble_eq_true rfl) ?_
   refine nl ?_
   refine AW.ret (retI (.cellA (i := 2) rfl ag_23 rfl rfl rfl .nil) ?_)
   rw [movedR, if_pos (show peekF bs r = true from h0t)]
   exact ⟨rfl, _, rfl⟩
  try replace h0f := of_decide_eq_false h0f
  refine AW.skip ?_
  refine AW.rseq ?_
  refine Y1 (Yv.move rfl eV) ?_
  refine Y1 (Yv.loadBoxA rfl ag_87 (i := 1) rfl (E rfl rfl) rfl rfl) ?_
  refine C1 rfl ce_78 (E rfl rfl) (evsC (E rfl rfl) (evsC (E rfl rfl) evs0)) (S1 := [Ent.box b 68 (rdCells bs r)]) (S2 := _) rfl (two78 b bs r hb hr x) ?_
  rintro t48 S48 ⟨rfl, E48, rfl⟩
  refine AWL.tuck ?_
  refine Y1 (Yv.move rfl eV) ?_
  refine Y1 (Yv.extract rfl eV rfl) ?_
  refine Y1 (Yv.extract rfl eV rfl) ?_
  refine Y1 (Yv.assign rfl eV) ?_
  refine Y1 (Yv.assign rfl eV) ?_
  refine nl ?_
  refine AW.rseq ?_
  refine Y1 (Yv.move rfl eV) ?_
  refine Y1 (Yv.move rfl eV) ?_
  refine Y1 (Yv.buildS rfl sh_23 (evpC (E rfl rfl) (evpC (E rfl rfl) (evpC (E rfl rfl) evp0))) (fun _ => rfl)) ?_
  refine AWL.storeBox (i := 2) rfl rfl rfl ag_23 rfl (E rfl rfl) (E rfl rfl) rfl rfl (Nat.le_of_ble_eq_true rfl) ?_
  refine nl ?_
  refine AW.ret (retI (.cellA (i := 2) rfl ag_23 rfl rfl rfl .nil) ?_)
  rw [movedR, if_neg (show ¬ peekF bs r = true from ne_true_of_eq_false h0f)]
  exact ⟨rfl, _, rfl⟩

set_option maxHeartbeats 2000000 in
theorem numbered77 (b : Nat) (bs : List UInt8) (r : Rd) (hb : bs.length ≤ 1099511627776) (hr : RdOk bs r) (x : Rx) (op : Int) :
    ACalls Tryd.prog 77 [.v (.pointer (some ⟨b, 0, none⟩)), rxT x, .v (.int .i64 op)] [Ent.box b 68 (rdCells bs r)] (fun t_ S => t_ = insT (numberedR bs x op r).1 ∧ ∃ E, S = Ent.box b 68 (rdCells bs (numberedR bs x op r).2) :: E) := by
  have hok1 : RdOk bs (numD1 bs x op r) := must_ok (one_ok hr x) _
  refine ACalls.intro Tryd.func77 rfl Tryd.ntmps77 (Nat.le_of_ble_eq_true rfl) rfl fun X w0 => ?_
  refine AW.rseq ?_
  refine AWL.boxOp rfl rfl (B rfl) rfl (E rfl rfl) rfl (fun b4 => ?_)
  refine AWL.allocOp rfl rfl (B rfl) rfl zc_23 (fun b6 => ?_)
  refine nl ?_
  refine AW.rseq ?_
  refine Y1 (Yv.move rfl eV) ?_
  refine Y1 (Yv.loadBoxA rfl ag_87 (i := 1) rfl (E rfl rfl) rfl rfl) ?_
  refine C1 rfl ce_76 (E rfl rfl) (evsC (E rfl rfl) (evsC (E rfl rfl) evs0)) (S1 := [Ent.box b 68 (rdCells bs r)]) (S2 := _) rfl (one76 b bs r hb hr x) ?_
  rintro t18 S18 ⟨rfl, E18, rfl⟩
  refine AWL.tuck ?_
  refine Y1 (Yv.move rfl eV) ?_
  refine Y1 (Yv.extract rfl eV rfl) ?_
  refine Y1 (Yv.extract rfl eV rfl) ?_
  refine Y1 (Yv.assign rfl eV) ?_
  refine Y1 (Yv.assign rfl eV) ?_
  refine nl ?_
  refine AW.rseq ?_
  refine Y1 (Yv.assign rfl eV) ?_
  refine nl ?_
  refine AW.seq ?_
  refine AW.rseq ?_
  refine AWL.buildSlice1 rfl rfl (B rfl) rfl el_43 rfl (evsC (E rfl rfl) (evsC (E rfl rfl) (evsC (E rfl rfl) (evsC (E rfl rfl) (evsC (E rfl rfl) (evsC (E rfl rfl) (evsC (E rfl rfl) (evsC (E rfl rfl) (evsC (E rfl rfl) (evsC (E rfl rfl) (evsC (E rfl rfl) (evsC (E rfl rfl) (evsC (E rfl rfl) (evsC (E rfl rfl) (evsC (E rfl rfl) (evsC (E rfl rfl) evs0)))))))))))))))) (Nat.le_of_ble_eq_true rfl) rfl rfl ?_
  refine Y1 (Yv.lenSl rfl so_43 (B rfl) (E rfl rfl) (show _ = 16 * 1 from rfl)) ?_
  refine Y1 (Yv.move rfl eV) ?_
  refine nl ?_
  refine AW.block ?_
  refine AW.loop (fun (j : Nat) => [(0, true, .v (.pointer (some ⟨b, 0, none⟩))), (2, true, .v (.int .i64 op)), (4, true, .v (.pointer (some ⟨b4, 0, none⟩))), (6, true, .v (.pointer (some ⟨b6, 0, none⟩))), (7, true, .v (.int .i64 (oneV bs x r).1)), (8, true, .v (.int .i64 (oneV bs x r).2)), (9, true, .v (.int .i64 (kindN op (oneV bs x r).1 j))), (21, true, .sl 1 (ints kindsN)), (22, true, .v (.int .i64 16)), (23, true, .v (.int .i64 (j : Int)))]) (fun (j : Nat) => ([Ent.box b 68 (rdCells bs (oneD bs x r)), .box b4 87 (rxCells x), .box b6 23 (insCells nilI)] ++ E18)) (fun (j : Nat) => j ≤ 16) (fun (j : Nat) => 16 - j) 0 ?_ ?_ ?_ ?_
  · exact Nat.zero_le _
  · exact (Sub.cons rfl rfl (Sub.cons rfl rfl (Sub.cons rfl rfl (Sub.cons rfl rfl (Sub.cons rfl rfl (Sub.cons rfl rfl (Sub.cons rfl rfl (Sub.cons rfl rfl (Sub.cons rfl rfl (Sub.cons rfl rfl Sub.nil))))))))))
  · rfl
  ·
   intro j hinv
   refine AW.rseq ?_
   refine Y1 (Yv.lss rfl eV eV) ?_
   refine nl ?_
   refine AW.seq ?_
   refine AW.cond rfl (fun h0t => ?_) (fun h0f => ?_)
   ·
    try replace h0t := of_decide_eq_true h0t
    refine AW.skip ?_
    refine AW.seq ?_
    refine AW.block ?_
    refine AW.rseq ?_
    refine Y1 (Yv.indexSl (j := j) rfl ss_43 (B rfl) (E rfl rfl) (E rfl rfl) (fun hg => ⟨rfl, by show j * 1 < 16; omega⟩)) ?_
    refine Y1 (Yv.loadRp rfl ag_3 (E rfl rfl) (fun hg => ints_get (by show j < 16; omega))) ?_
    refine Y1 (Yv.assign rfl eV) ?_
    refine nl ?_
    refine AW.rseq ?_
    refine Y1 (Yv.move rfl eV) ?_
    refine AWL.callT rfl rfl (B rfl) rfl ce_26 (E rfl rfl) (evsC (E rfl rfl) evs0) (opcode33 (kindsN.getD j 0)) ?_
    rintro t29 S29 rfl
    refine Y1 (Yv.move rfl eV) ?_
    refine Y1 (Yv.extract rfl eV rfl) ?_
    refine Y1 (Yv.extract rfl eV rfl) ?_
    refine Y1 (Yv.assign rfl eV) ?_
    refine Y1 (Yv.assign rfl eV) ?_
    refine nl ?_
    refine AW.rseq ?_
    refine Y1 (Yv.move rfl eV) ?_
    refine Y1 (Yv.move rfl eV) ?_
    refine Y1 (Yv.eql rfl eV eV) ?_
    refine Y1 (Yv.move rfl eV) ?_
    refine AWL.ygT rfl rfl rfl rfl (B rfl) (Yv.move rfl (E rfl rfl)) ?_
    refine AWL.ygT rfl rfl rfl rfl (B rfl) (Yv.move rfl (E rfl rfl)) ?_
    refine AWL.ygT rfl rfl rfl rfl (B rfl) (Yv.eql rfl (Eg rfl rfl id) (Eg rfl rfl id)) ?_
    refine Y1 (Yv.pickAnd rfl (E rfl rfl) (Eg rfl rfl id)) ?_
    refine nl ?_
    refine AW.cond rfl (fun h1t => ?_) (fun h1f => ?_)
    ·
     try replace h1t := of_decide_eq_true h1t
     refine AW.region ?_
     refine Y1 (Yv.move rfl eV) ?_
     refine Y1 (Yv.assign rfl eV) ?_
     refine nl ?_
     refine AW.region ?_
     refine Y1 (Yv.addN_i64 rfl (E rfl rfl) (E rfl rfl) (fun hg => by omega)) ?_
     refine Y1 (Yv.move rfl eV) ?_
     refine nl ?_
     have hkn := kindN_next op (oneV bs x r).1 (show j < 16 by omega)
     refine ⟨j + 1, by omega, by omega, Sub.cons rfl rfl (Sub.cons rfl rfl (Sub.cons rfl rfl (Sub.cons rfl rfl (Sub.cons rfl rfl (Sub.cons rfl rfl (Sub.cons rfl (by rw [hkn, stepN, if_pos h1t]) (Sub.cons rfl rfl (Sub.cons rfl rfl (Sub.cons rfl (by simp) Sub.nil))))))))), rfl⟩
    try replace h1f := of_decide_eq_false h1f
    refine AW.skip ?_
    refine AW.region ?_
    refine Y1 (Yv.addN_i64 rfl (E rfl rfl) (E rfl rfl) (fun hg => by omega)) ?_
    refine Y1 (Yv.move rfl eV) ?_
    refine nl ?_
    have hkn := kindN_next op (oneV bs x r).1 (show j < 16 by omega)
    refine ⟨j + 1, by omega, by omega, Sub.cons rfl rfl (Sub.cons rfl rfl (Sub.cons rfl rfl (Sub.cons rfl rfl (Sub.cons rfl rfl (Sub.cons rfl rfl (Sub.cons rfl (by rw [hkn, stepN, if_neg (ne_true_of_eq_false h1f)]) (Sub.cons rfl rfl (Sub.cons rfl rfl (Sub.cons rfl (by simp) Sub.nil))))))))), rfl⟩
   try replace h0f := of_decide_eq_false h0f
   refine AW.exit ?_
   obtain rfl : j = 16 := by omega
   refine AW.rseq ?_
   refine Y1 (Yv.move rfl eV) ?_
   refine Y1 (Yv.move rfl eV) ?_
   refine Y1 (Yv.gtr rfl eV eV) ?_
   refine C1 rfl ce_59 (E rfl rfl) (evsC (E rfl rfl) (evsC (E rfl rfl) evs0)) (S1 := [Ent.box b 68 (rdCells bs (oneD bs x r))]) (S2 := _) rfl (must64 b bs (oneD bs x r) (decide (0 < (kindN op (oneV bs x r).1 16)))) ?_
   rintro t45 S45 rfl
   refine nl ?_
   refine AW.rseq ?_
   refine Y1 (Yv.move rfl eV) ?_
   refine Y1 (Yv.move rfl eV) ?_
   refine Y1 (Yv.buildS rfl sh_23 (evpC (E rfl rfl) (evpC (E rfl rfl) evp0)) (fun _ => rfl)) ?_
   refine AWL.allocOp rfl rfl (B rfl) rfl zc_23 (fun b14 => ?_)
   refine AWL.perm (S' := [Ent.box b 68 (rdCells bs (numD1 bs x op r)), .box b4 87 (rxCells x), .box b6 23 (insCells nilI), .box b14 23 (insCells nilI)] ++ E18) (List.Perm.append_left [_, _, _] (List.perm_append_comm (l₁ := [_]) (l₂ := E18))) ?_
   refine AWL.storeBox (i := 3) rfl rfl rfl ag_23 rfl (E rfl rfl) (E rfl rfl) rfl rfl (Nat.le_of_ble_eq_true rfl) ?_
   refine nl ?_
   refine AW.seq ?_
   refine AW.rseq ?_
   refine Y1 (Yv.move rfl eV) ?_
   refine nl ?_
   refine AW.block ?_
   refine AW.rseq ?_
   refine Y1 (Yv.eql rfl eV eV) ?_
   refine Y1 (Yv.assign rfl eV) ?_
   refine nl ?_
   refine AW.cond rfl (fun h2t => ?_) (fun h2f => ?_)
   ·
    try replace h2t := of_decide_eq_true h2t
    refine AW.region ?_
    refine Y1 (Yv.move rfl eV) ?_
    refine C1 rfl ce_63 (E rfl rfl) (evsC (E rfl rfl) (evsC (E rfl rfl) evs0)) (S1 := [Ent.box b 68 (rdCells bs (numD1 bs x op r))]) (S2 := _) rfl (imm68 b bs (numD1 bs x op r) hb hok1 4 (.inr (.inl rfl))) ?_
    rintro t53 S53 ⟨rfl, rfl⟩
    refine Y1 (Yv.fieldBox rfl fo_23_5 eV) ?_
    refine AWL.storeBox (i := 3) rfl rfl rfl ag_2 rfl (E rfl rfl) (E rfl rfl) rfl rfl (Nat.le_of_ble_eq_true rfl) ?_
    refine nl ?_
    refine AW.rseq ?_
    refine Y1 (Yv.loadBoxA rfl ag_23 (i := 3) rfl (E rfl rfl) rfl rfl) ?_
    refine AWL.storeBox (i := 2) rfl rfl rfl ag_23 rfl (E rfl rfl) (E rfl rfl) rfl rfl (Nat.le_of_ble_eq_true rfl) ?_
    refine nl ?_
    refine AW.ret (retI (.cellA (i := 2) rfl ag_23 rfl rfl rfl .nil) ?_)
    rw [numberedR, if_pos h2t]
    exact ⟨rfl, _, rfl⟩
   try replace h2f := of_decide_eq_false h2f
   refine AW.rseq ?_
   refine Y1 (Yv.eql rfl eV eV) ?_
   refine Y1 (Yv.assign rfl eV) ?_
   refine nl ?_
   refine AW.cond rfl (fun h3t => ?_) (fun h3f => ?_)
   ·
    try replace h3t := of_decide_eq_true h3t
    refine AW.rseq ?_
    refine Y1 (Yv.move rfl eV) ?_
    refine C1 rfl ce_63 (E rfl rfl) (evsC (E rfl rfl) (evsC (E rfl rfl) evs0)) (S1 := [Ent.box b 68 (rdCells bs (numD1 bs x op r))]) (S2 := _) rfl (imm68 b bs (numD1 bs x op r) hb hok1 1 (.inl rfl)) ?_
    rintro t58 S58 ⟨rfl, rfl⟩
    refine Y1 (Yv.fieldBox rfl fo_23_5 eV) ?_
    refine AWL.storeBox (i := 3) rfl rfl rfl ag_2 rfl (E rfl rfl) (E rfl rfl) rfl rfl (Nat.le_of_ble_eq_true rfl) ?_
    refine nl ?_
    refine AW.region ?_
    refine Y1 (Yv.move rfl eV) ?_
    refine Y1 (Yv.fieldBox rfl fo_23_5 eV) ?_
    refine Y1 (Yv.loadBox rfl ag_2 (i := 3) rfl (E rfl rfl) rfl) ?_
    refine Y1 (Yv.geq rfl eV eV) ?_
    refine Y1 (Yv.move rfl eV) ?_
    refine AWL.ygT rfl rfl rfl rfl (B rfl) (Yv.fieldBox rfl fo_23_5 (E rfl rfl)) ?_
    refine AWL.ygT rfl rfl rfl rfl (B rfl) (Yv.loadBox rfl ag_2 (i := 3) rfl (Eg rfl rfl id) rfl) ?_
    refine AWL.ygT rfl rfl rfl rfl (B rfl) (Yv.leq rfl (Eg rfl rfl id) (E rfl rfl)) ?_
    refine Y1 (Yv.pickAnd rfl (E rfl rfl) (Eg rfl rfl id)) ?_
    refine C1 rfl ce_59 (E rfl rfl) (evsC (E rfl rfl) (evsC (E rfl rfl) evs0)) (S1 := [Ent.box b 68 (rdCells bs (immD bs (numD1 bs x op r) 1))]) (S2 := _) rfl (must64 b bs (immD bs (numD1 bs x op r) 1) (decide (0 ≤ immV bs (numD1 bs x op r) 1) && decide (immV bs (numD1 bs x op r) 1 ≤ 63))) ?_
    rintro t69 S69 rfl
    refine nl ?_
    refine AW.rseq ?_
    refine Y1 (Yv.loadBoxA rfl ag_23 (i := 3) rfl (E rfl rfl) rfl rfl) ?_
    refine AWL.storeBox (i := 2) rfl rfl rfl ag_23 rfl (E rfl rfl) (E rfl rfl) rfl rfl (Nat.le_of_ble_eq_true rfl) ?_
    refine nl ?_
    refine AW.ret (retI (.cellA (i := 2) rfl ag_23 rfl rfl rfl .nil) ?_)
    rw [numberedR, if_neg h2f, if_pos h3t]
    exact ⟨rfl, _, rfl⟩
   try replace h3f := of_decide_eq_false h3f
   refine AW.skip ?_
   refine AW.rseq ?_
   refine Y1 (Yv.loadBoxA rfl ag_23 (i := 3) rfl (E rfl rfl) rfl rfl) ?_
   refine AWL.storeBox (i := 2) rfl rfl rfl ag_23 rfl (E rfl rfl) (E rfl rfl) rfl rfl (Nat.le_of_ble_eq_true rfl) ?_
   refine nl ?_
   refine AW.ret (retI (.cellA (i := 2) rfl ag_23 rfl rfl rfl .nil) ?_)
   rw [numberedR, if_neg h2f, if_neg h3f]
   exact ⟨rfl, _, rfl⟩

set_option maxHeartbeats 2000000 in
theorem narrow73 (b : Nat) (bs : List UInt8) (r : Rd) (hb : bs.length ≤ 1099511627776) (hr : RdOk bs r) (x : Rx) (op : Int) (ho0 : 0 ≤ op) (ho1 : op ≤ 255) :
    ACalls Tryd.prog 73 [.v (.pointer (some ⟨b, 0, none⟩)), rxT x, .v (.int .i64 op)] [Ent.box b 68 (rdCells bs r)] (fun t_ S => t_ = insT (narrowR bs x op r).1 ∧ ∃ E, S = Ent.box b 68 (rdCells bs (narrowR bs x op r).2) :: E) := by
  refine ACalls.intro Tryd.func73 rfl Tryd.ntmps73 (Nat.le_of_ble_eq_true rfl) rfl fun X w0 => ?_
  refine AW.rseq ?_
  refine AWL.boxOp rfl rfl (B rfl) rfl (E rfl rfl) rfl (fun b4 => ?_)
  refine AWL.allocOp rfl rfl (B rfl) rfl zc_23 (fun b6 => ?_)
  refine nl ?_
  refine AW.seq ?_
  refine AW.block ?_
  refine AW.rseq ?_
  refine Y1 (Yv.move rfl eV) ?_
  refine Y1 (Yv.eql rfl eV eV) ?_
  refine Y1 (Yv.assign rfl eV) ?_
  refine nl ?_
  refine AW.cond rfl (fun h0t => ?_) (fun h0f => ?_)
  ·
   try replace h0t := of_decide_eq_true h0t
   refine AW.rseq ?_
   refine Y1 (Yv.move rfl eV) ?_
   refine Y1 (Yv.loadBoxA rfl ag_87 (i := 1) rfl (E rfl rfl) rfl rfl) ?_
   refine C1 rfl ce_74 (E rfl rfl) (evsC (E rfl rfl) (evsC (E rfl rfl) evs0)) (S1 := [Ent.box b 68 (rdCells bs r)]) (S2 := _) rfl (mem74 b bs r hb hr x) ?_
   rintro t24 S24 ⟨rfl, E24, rfl⟩
   refine AWL.tuck ?_
   refine Y1 (Yv.move rfl eV) ?_
   refine Y1 (Yv.extract rfl eV rfl) ?_
   refine Y1 (Yv.extract rfl eV rfl) ?_
   refine Y1 (Yv.extract rfl eV rfl) ?_
   refine Y1 (Yv.assign rfl eV) ?_
   refine Y1 (Yv.assign rfl eV) ?_
   refine Y1 (Yv.assign rfl eV) ?_
   refine nl ?_
   refine AW.rseq ?_
   refine Y1 (Yv.move rfl eV) ?_
   refine Y1 (Yv.move rfl eV) ?_
   refine Y1 (Yv.move rfl eV) ?_
   refine Y1 (Yv.buildS rfl sh_23 (evpC (E rfl rfl) (evpC (E rfl rfl) (evpC (E rfl rfl) (evpC (E rfl rfl) (evpC (E rfl rfl) evp0))))) (fun _ => rfl)) ?_
   refine AWL.storeBox (i := 2) rfl rfl rfl ag_23 rfl (E rfl rfl) (E rfl rfl) rfl rfl (Nat.le_of_ble_eq_true rfl) ?_
   refine nl ?_
   refine AW.ret (retI (.cellA (i := 2) rfl ag_23 rfl rfl rfl .nil) ?_)
   rw [narrowR, if_pos h0t]
   exact ⟨rfl, _, rfl⟩
  try replace h0f := of_decide_eq_false h0f
  refine AW.rseq ?_
  refine Y1 (Yv.move rfl eV) ?_
  refine Y1 (Yv.eql rfl eV eV) ?_
  refine Y1 (Yv.assign rfl eV) ?_
  refine nl ?_
  refine AW.cond rfl (fun h1t => ?_) (fun h1f => ?_)
  ·
   try replace h1t := of_decide_eq_true h1t
   refine AW.rseq ?_
   refine Y1 (Yv.move rfl eV) ?_
   refine Y1 (Yv.loadBoxA rfl ag_87 (i := 1) rfl (E rfl rfl) rfl rfl) ?_
   refine C1 rfl ce_74 (E rfl rfl) (evsC (E rfl rfl) (evsC (E rfl rfl) evs0)) (S1 := [Ent.box b 68 (rdCells bs r)]) (S2 := _) rfl (mem74 b bs r hb hr x) ?_
   rintro t38 S38 ⟨rfl, E38, rfl⟩
   refine AWL.tuck ?_
   refine Y1 (Yv.move rfl eV) ?_
   refine Y1 (Yv.extract rfl eV rfl) ?_
   refine Y1 (Yv.extract rfl eV rfl) ?_
   refine Y1 (Yv.extract rfl eV rfl) ?_
   refine Y1 (Yv.assign rfl eV) ?_
   refine Y1 (Yv.assign rfl eV) ?_
   refine Y1 (Yv.assign rfl eV) ?_
   refine nl ?_
   refine AW.rseq ?_
   refine Y1 (Yv.move rfl eV) ?_
   refine Y1 (Yv.move rfl eV) ?_
   refine Y1 (Yv.move rfl eV) ?_
   refine Y1 (Yv.buildS rfl sh_23 (evpC (E rfl rfl) (evpC (E rfl rfl) (evpC (E rfl rfl) (evpC (E rfl rfl) (evpC (E rfl rfl) evp0))))) (fun _ => rfl)) ?_
   refine AWL.storeBox (i := 2) rfl rfl rfl ag_23 rfl (E rfl rfl) (E rfl rfl) rfl rfl (Nat.le_of_ble_eq_true rfl) ?_
   refine nl ?_
   refine AW.ret (retI (.cellA (i := 2) rfl ag_23 rfl rfl rfl .nil) ?_)
   rw [narrowR, if_neg h0f, if_pos h1t]
   exact ⟨rfl, _, rfl⟩
  try replace h1f := of_decide_eq_false h1f
  refine AW.rseq ?_
  refine Y1 (Yv.move rfl eV) ?_
  refine Y1 (Yv.eql rfl eV eV) ?_
  refine Y1 (Yv.assign rfl eV) ?_
  refine nl ?_
  refine AW.cond rfl (fun h2t => ?_) (fun h2f => ?_)
  ·
   try replace h2t := of_decide_eq_true h2t
   refine AW.rseq ?_
   refine Y1 (Yv.move rfl eV) ?_
   refine Y1 (Yv.loadBoxA rfl ag_87 (i := 1) rfl (E rfl rfl) rfl rfl) ?_
   refine C1 rfl ce_74 (E rfl rfl) (evsC (E rfl rfl) (evsC (E rfl rfl) evs0)) (S1 := [Ent.box b 68 (rdCells bs r)]) (S2 := _) rfl (mem74 b bs r hb hr x) ?_
   rintro t52 S52 ⟨rfl, E52, rfl⟩
   refine AWL.tuck ?_
   refine Y1 (Yv.move rfl eV) ?_
   refine Y1 (Yv.extract rfl eV rfl) ?_
   refine Y1 (Yv.extract rfl eV rfl) ?_
   refine Y1 (Yv.extract rfl eV rfl) ?_
   refine Y1 (Yv.assign rfl eV) ?_
   refine Y1 (Yv.assign rfl eV) ?_
   refine Y1 (Yv.assign rfl eV) ?_
   refine nl ?_
   refine AW.rseq ?_
   refine Y1 (Yv.move rfl eV) ?_
   refine Y1 (Yv.move rfl eV) ?_
   refine Y1 (Yv.move rfl eV) ?_
   refine Y1 (Yv.buildS rfl sh_23 (evpC (E rfl rfl) (evpC (E rfl rfl) (evpC (E rfl rfl) (evpC (E rfl rfl) (evpC (E rfl rfl) evp0))))) (fun _ => rfl)) ?_
   refine AWL.storeBox (i := 2) rfl rfl rfl ag_23 rfl (E rfl rfl) (E rfl rfl) rfl rfl (Nat.le_of_ble_eq_true rfl) ?_
   refine nl ?_
   refine AW.ret (retI (.cellA (i := 2) rfl ag_23 rfl rfl rfl .nil) ?_)
   rw [narrowR, if_neg h0f, if_neg h1f, if_pos h2t]
   exact ⟨rfl, _, rfl⟩
  try replace h2f := of_decide_eq_false h2f
  refine AW.rseq ?_
  refine Y1 (Yv.move rfl eV) ?_
  refine Y1 (Yv.eql rfl eV eV) ?_
  refine Y1 (Yv.assign rfl eV) ?_
  refine nl ?_
  refine AW.cond rfl (fun h3t => ?_) (fun h3f => ?_)
  ·
   try replace h3t := of_decide_eq_true h3t
   refine AW.rseq ?_
   refine Y1 (Yv.move rfl eV) ?_
   refine Y1 (Yv.loadBoxA rfl ag_87 (i := 1) rfl (E rfl rfl) rfl rfl) ?_
   refine C1 rfl ce_76 (E rfl rfl) (evsC (E rfl rfl) (evsC (E rfl rfl) evs0)) (S1 := [Ent.box b 68 (rdCells bs r)]) (S2 := _) rfl (one76 b bs r hb hr x) ?_
   rintro t66 S66 ⟨rfl, E66, rfl⟩
   refine AWL.tuck ?_
   refine Y1 (Yv.move rfl eV) ?_
   refine Y1 (Yv.extract rfl eV rfl) ?_
   refine Y1 (Yv.extract rfl eV rfl) ?_
   refine Y1 (Yv.assign rfl eV) ?_
   refine Y1 (Yv.assign rfl eV) ?_
   refine nl ?_
   refine AW.rseq ?_
   refine Y1 (Yv.move rfl eV) ?_
   refine Y1 (Yv.move rfl eV) ?_
   refine Y1 (Yv.eql rfl eV eV) ?_
   refine Y1 (Yv.move rfl eV) ?_
   refine AWL.ygF rfl rfl rfl rfl (B rfl) (Yv.move rfl (E rfl rfl)) ?_
   refine AWL.ygF rfl rfl rfl rfl (B rfl) (Yv.eql rfl (Eg rfl rfl id) (E rfl rfl)) ?_
   refine Y1 (Yv.pickOr (t := .const (.bool true)) rfl (E rfl rfl) (Eg rfl rfl id)) ?_
   refine C1 rfl ce_59 (E rfl rfl) (evsC (E rfl rfl) (evsC (E rfl rfl) evs0)) (S1 := [Ent.box b 68 (rdCells bs (oneD bs x r))]) (S2 := _) rfl (must64 b bs (oneD bs x r) (decide ((oneV bs x r).1 = 2) || decide ((oneV bs x r).1 = 4))) ?_
   rintro t76 S76 rfl
   refine nl ?_
   refine AW.seq ?_
   refine AW.rseq ?_
   refine Y1 (Yv.move rfl eV) ?_
   refine Y1 (Yv.eql rfl eV eV) ?_
   refine nl ?_
   refine AW.cond rfl (fun h4t => ?_) (fun h4f => ?_)
   ·
    try replace h4t := of_decide_eq_true h4t
    refine AW.rseq ?_
    refine Y1 (Yv.move rfl eV) ?_
    refine Y1 (Yv.buildS rfl sh_23 (evpC (E rfl rfl) (evpC (E rfl rfl) evp0)) (fun _ => rfl)) ?_
    refine AWL.storeBox (i := 2) rfl rfl rfl ag_23 rfl (E rfl rfl) (E rfl rfl) rfl rfl (Nat.le_of_ble_eq_true rfl) ?_
    refine nl ?_
    refine AW.ret (retI (.cellA (i := 2) rfl ag_23 rfl rfl rfl .nil) ?_)
    rw [narrowR, if_neg h0f, if_neg h1f, if_neg h2f, if_pos h3t, if_pos h4t]
    exact ⟨rfl, _, rfl⟩
   try replace h4f := of_decide_eq_false h4f
   refine AW.skip ?_
   refine AW.rseq ?_
   refine Y1 (Yv.move rfl eV) ?_
   refine Y1 (Yv.buildS rfl sh_23 (evpC (E rfl rfl) (evpC (E rfl rfl) evp0)) (fun _ => rfl)) ?_
   refine AWL.storeBox (i := 2) rfl rfl rfl ag_23 rfl (E rfl rfl) (E rfl rfl) rfl rfl (Nat.le_of_ble_eq_true rfl) ?_
   refine nl ?_
   refine AW.ret (retI (.cellA (i := 2) rfl ag_23 rfl rfl rfl .nil) ?_)
   rw [narrowR, if_neg h0f, if_neg h1f, if_neg h2f, if_pos h3t, if_neg h4f]
   exact ⟨rfl, _, rfl⟩
  try replace h3f := of_decide_eq_false h3f
  refine AW.rseq ?_
  refine Y1 (Yv.move rfl eV) ?_
  refine Y1 (Yv.bits rfl rfl (E rfl rfl) (E rfl rfl)) ?_
  refine Y1 (Yv.eql rfl eV eV) ?_
  refine Y1 (Yv.assign rfl eV) ?_
  refine nl ?_
  refine AW.cond rfl (fun h5t => ?_) (fun h5f => ?_)
  ·
   try replace h5t := of_decide_eq_true h5t
   refine AW.rseq ?_
   refine Y1 (Yv.move rfl eV) ?_
   refine Y1 (Yv.fieldBox rfl fo_87_1 eV) ?_
   refine Y1 (Yv.loadBox rfl ag_3 (i := 1) rfl (E rfl rfl) rfl) ?_
   refine Y1 (Yv.eql rfl eV eV) ?_
   refine C1 rfl ce_59 (E rfl rfl) (evsC (E rfl rfl) (evsC (E rfl rfl) evs0)) (S1 := [Ent.box b 68 (rdCells bs r)]) (S2 := _) rfl (must64 b bs r _) ?_
   rintro t91 S91 rfl
   refine nl ?_
   refine AW.rseq ?_
   refine Y1 (Yv.fieldBox rfl fo_87_2 eV) ?_
   refine Y1 (Yv.loadBox rfl ag_3 (i := 1) rfl (E rfl rfl) rfl) ?_
   refine Y1 (Yv.move rfl eV) ?_
   refine Y1 (Yv.andN_i64 3 8 (by decide) (by decide) (by decide) rfl (E rfl rfl) (E rfl rfl) (fun hg => ⟨by omega, by omega⟩)) ?_
   refine Y1 (Yv.bits rfl rfl (E rfl rfl) (E rfl rfl)) ?_
   refine Y1 (Yv.buildS rfl sh_23 (evpC (E rfl rfl) (evpC (E rfl rfl) evp0)) (fun _ => rfl)) ?_
   refine AWL.storeBox (i := 2) rfl rfl rfl ag_23 rfl (E rfl rfl) (E rfl rfl) rfl rfl (Nat.le_of_ble_eq_true rfl) ?_
   refine nl ?_
   refine AW.ret (retI (.cellA (i := 2) rfl ag_23 rfl rfl rfl .nil) ?_)
   rw [narrowR, if_neg h0f, if_neg h1f, if_neg h2f, if_neg h3f, if_pos h5t]
   exact ⟨rfl, _, rfl⟩
  try replace h5f := of_decide_eq_false h5f
  refine AW.rseq ?_
  refine Y1 (Yv.move rfl eV) ?_
  refine Y1 (Yv.bits rfl rfl (E rfl rfl) (E rfl rfl)) ?_
  refine Y1 (Yv.eql rfl eV eV) ?_
  refine Y1 (Yv.assign rfl eV) ?_
  refine nl ?_
  refine AW.cond rfl (fun h6t => ?_) (fun h6f => ?_)
  ·
   try replace h6t := of_decide_eq_true h6t
   refine AW.rseq ?_
   refine Y1 (Yv.move rfl eV) ?_
   refine Y1 (Yv.fieldBox rfl fo_87_1 eV) ?_
   refine Y1 (Yv.loadBox rfl ag_3 (i := 1) rfl (E rfl rfl) rfl) ?_
   refine Y1 (Yv.eql rfl eV eV) ?_
   refine C1 rfl ce_59 (E rfl rfl) (evsC (E rfl rfl) (evsC (E rfl rfl) evs0)) (S1 := [Ent.box b 68 (rdCells bs r)]) (S2 := _) rfl (must64 b bs r _) ?_
   rintro t106 S106 rfl
   refine nl ?_
   refine AW.rseq ?_
   refine Y1 (Yv.fieldBox rfl fo_87_2 eV) ?_
   refine Y1 (Yv.loadBox rfl ag_3 (i := 1) rfl (E rfl rfl) rfl) ?_
   refine Y1 (Yv.move rfl eV) ?_
   refine Y1 (Yv.andN_i64 3 8 (by decide) (by decide) (by decide) rfl (E rfl rfl) (E rfl rfl) (fun hg => ⟨by omega, by omega⟩)) ?_
   refine Y1 (Yv.bits rfl rfl (E rfl rfl) (E rfl rfl)) ?_
   refine Y1 (Yv.buildS rfl sh_23 (evpC (E rfl rfl) (evpC (E rfl rfl) evp0)) (fun _ => rfl)) ?_
   refine AWL.storeBox (i := 2) rfl rfl rfl ag_23 rfl (E rfl rfl) (E rfl rfl) rfl rfl (Nat.le_of_ble_eq_true rfl) ?_
   refine nl ?_
   refine AW.ret (retI (.cellA (i := 2) rfl ag_23 rfl rfl rfl .nil) ?_)
   rw [narrowR, if_neg h0f, if_neg h1f, if_neg h2f, if_neg h3f, if_neg h5f, if_pos h6t]
   exact ⟨rfl, _, rfl⟩
  try replace h6f := of_decide_eq_false h6f
  refine AW.skip ?_
  refine AW.rseq ?_
  refine Y1 (Yv.move rfl eV) ?_
  refine C1 rfl ce_59 (E rfl rfl) (evsC (E rfl rfl) (evsC (E rfl rfl) evs0)) (S1 := [Ent.box b 68 (rdCells bs r)]) (S2 := _) rfl (must64 b bs r _) ?_
  rintro t114 S114 rfl
  refine nl ?_
  refine AW.rseq ?_
  refine Y1 (Yv.buildS rfl sh_23 evp0 (fun _ => rfl)) ?_
  refine AWL.storeBox (i := 2) rfl rfl rfl ag_23 rfl (E rfl rfl) (E rfl rfl) rfl rfl (Nat.le_of_ble_eq_true rfl) ?_
  refine nl ?_
  refine AW.ret (retI (.cellA (i := 2) rfl ag_23 rfl rfl rfl .nil) ?_)
  rw [narrowR, if_neg h0f, if_neg h1f, if_neg h2f, if_neg h3f, if_neg h5f, if_neg h6f]
  exact ⟨rfl, _, rfl⟩

set_option maxHeartbeats 2000000 in
theorem far72 (b : Nat) (bs : List UInt8) (r : Rd) (hb : bs.length ≤ 1099511627776) (hr : RdOk bs r) (x : Rx) :
    ACalls Tryd.prog 72 [.v (.pointer (some ⟨b, 0, none⟩)), rxT x] [Ent.box b 68 (rdCells bs r)] (fun t_ S => t_ = insT (farR bs x r).1 ∧ ∃ E, S = Ent.box b 68 (rdCells bs (farR bs x r).2) :: E) := by
  have hok1 : RdOk bs (farD1 x r) := must_ok hr _
  have hok2 := next_ok hok1
  obtain ⟨hx0, hx1⟩ := next_range bs (farD1 x r)
  refine ACalls.intro Tryd.func72 rfl Tryd.ntmps72 (Nat.le_of_ble_eq_true rfl) rfl fun X w0 => ?_
  refine AW.rseq ?_
  refine AWL.boxOp rfl rfl (B rfl) rfl (E rfl rfl) rfl (fun b3 => ?_)
  refine AWL.allocOp rfl rfl (B rfl) rfl zc_23 (fun b4 => ?_)
  refine nl ?_
  refine AW.rseq ?_
  refine Y1 (Yv.move rfl eV) ?_
  refine Y1 (Yv.fieldBox rfl fo_87_0 eV) ?_
  refine Y1 (Yv.loadBox rfl ag_3 (i := 1) rfl (E rfl rfl) rfl) ?_
  refine Y1 (Yv.eql rfl eV eV) ?_
  refine Y1 (Yv.move rfl eV) ?_
  refine AWL.ygF rfl rfl rfl rfl (B rfl) (Yv.fieldBox rfl fo_87_1 (E rfl rfl)) ?_
  refine AWL.ygF rfl rfl rfl rfl (B rfl) (Yv.loadBox rfl ag_3 (i := 1) rfl (Eg rfl rfl id) rfl) ?_
  refine AWL.ygF rfl rfl rfl rfl (B rfl) (Yv.eql rfl (Eg rfl rfl id) (E rfl rfl)) ?_
  refine Y1 (Yv.pickOr (t := .const (.bool true)) rfl (E rfl rfl) (Eg rfl rfl id)) ?_
  refine C1 rfl ce_59 (E rfl rfl) (evsC (E rfl rfl) (evsC (E rfl rfl) evs0)) (S1 := [Ent.box b 68 (rdCells bs r)]) (S2 := _) rfl (must64 b bs r (decide (x.wide = 1) || decide (x.reg = 0))) ?_
  rintro t26 S26 rfl
  refine nl ?_
  refine AW.rseq ?_
  refine Y1 (Yv.move rfl eV) ?_
  refine C1 rfl ce_58 (E rfl rfl) (evsC (E rfl rfl) evs0) (S1 := [Ent.box b 68 (rdCells bs (farD1 x r))]) (S2 := _) rfl (next63 b bs (farD1 x r) hb hok1) ?_
  rintro t28 S28 ⟨rfl, rfl⟩
  refine Y1 (Yv.assign rfl eV) ?_
  refine nl ?_
  refine AW.seq ?_
  refine AW.rseq ?_
  refine Y1 (Yv.move rfl eV) ?_
  refine Y1 (Yv.nilChk rfl eV) ?_
  refine Y1 (Yv.fieldBox rfl fo_68_2 eV) ?_
  refine Y1 (Yv.loadBox rfl ag_4 (i := 0) rfl (E rfl rfl) rfl) ?_
  refine Y1 (Yv.move rfl eV) ?_
  refine AWL.ygF rfl rfl rfl rfl (B rfl) (Yv.move rfl (E rfl rfl)) ?_
  refine AWL.ygF rfl rfl rfl rfl (B rfl) (Yv.nilChk rfl (Eg rfl rfl id)) ?_
  refine AWL.ygF rfl rfl rfl rfl (B rfl) (Yv.fieldBox rfl fo_68_3 (Eg rfl rfl id)) ?_
  refine AWL.ygF rfl rfl rfl rfl (B rfl) (Yv.loadBox rfl ag_4 (i := 0) rfl (Eg rfl rfl id) rfl) ?_
  refine Y1 (Yv.pickOr (t := .const (.bool true)) rfl (E rfl rfl) (Eg rfl rfl id)) ?_
  refine nl ?_
  refine AW.cond rfl (fun h0t => ?_) (fun h0f => ?_)
  ·
   try replace h0t := of_decide_eq_true h0t
   refine AW.rseq ?_
   refine Y1 (Yv.buildS rfl sh_23 evp0 (fun _ => rfl)) ?_
   refine AWL.storeBox (i := 2) rfl rfl rfl ag_23 rfl (E rfl rfl) (E rfl rfl) rfl rfl (Nat.le_of_ble_eq_true rfl) ?_
   refine nl ?_
   refine AW.ret (retI (.cellA (i := 2) rfl ag_23 rfl rfl rfl .nil) ?_)
   rw [farR, if_pos h0t]
   exact ⟨rfl, _, rfl⟩
  try replace h0f := of_decide_eq_false h0f
  refine AW.skip ?_
  refine AW.seq ?_
  refine AW.block ?_
  refine AW.rseq ?_
  refine Y1 (Yv.fieldBox rfl fo_87_0 eV) ?_
  refine Y1 (Yv.loadBox rfl ag_3 (i := 1) rfl (E rfl rfl) rfl) ?_
  refine Y1 (Yv.eql rfl eV eV) ?_
  refine Y1 (Yv.move rfl eV) ?_
  refine AWL.ygT rfl rfl rfl rfl (B rfl) (Yv.move rfl (E rfl rfl)) ?_
  refine AWL.ygT rfl rfl rfl rfl (B rfl) (Yv.bits rfl rfl (Eg rfl rfl id) (E rfl rfl)) ?_
  refine AWL.ygT rfl rfl rfl rfl (B rfl) (Yv.eql rfl (Eg rfl rfl id) (E rfl rfl)) ?_
  refine Y1 (Yv.pickAnd rfl (E rfl rfl) (Eg rfl rfl id)) ?_
  refine Y1 (Yv.assign rfl eV) ?_
  refine nl ?_
  refine AW.cond rfl (fun h1t => ?_) (fun h1f => ?_)
  ·
   try replace h1t := of_decide_eq_true h1t
   refine AW.rseq ?_
   refine Y1 (Yv.move rfl eV) ?_
   refine Y1 (Yv.loadBoxA rfl ag_87 (i := 1) rfl (E rfl rfl) rfl rfl) ?_
   refine C1 rfl ce_76 (E rfl rfl) (evsC (E rfl rfl) (evsC (E rfl rfl) evs0)) (S1 := [Ent.box b 68 (rdCells bs (nextF bs (farD1 x r)).2)]) (S2 := _) rfl (one76 b bs (nextF bs (farD1 x r)).2 hb hok2 x) ?_
   rintro t52 S52 ⟨rfl, E52, rfl⟩
   refine AWL.tuck ?_
   refine Y1 (Yv.move rfl eV) ?_
   refine Y1 (Yv.extract rfl eV rfl) ?_
   refine Y1 (Yv.extract rfl eV rfl) ?_
   refine Y1 (Yv.assign rfl eV) ?_
   refine Y1 (Yv.assign rfl eV) ?_
   refine nl ?_
   refine AW.rseq ?_
   refine Y1 (Yv.move rfl eV) ?_
   refine Y1 (Yv.move rfl eV) ?_
   refine Y1 (Yv.eql rfl eV eV) ?_
   refine C1 rfl ce_59 (E rfl rfl) (evsC (E rfl rfl) (evsC (E rfl rfl) evs0)) (S1 := [Ent.box b 68 (rdCells bs (oneD bs x (nextF bs (farD1 x r)).2))]) (S2 := _) rfl (must64 b bs (oneD bs x (nextF bs (farD1 x r)).2) (decide ((oneV bs x (nextF bs (farD1 x r)).2).1 = 0))) ?_
   rintro t58 S58 rfl
   refine nl ?_
   refine AW.rseq ?_
   refine Y1 (Yv.move rfl eV) ?_
   refine Y1 (Yv.move rfl eV) ?_
   refine Y1 (Yv.andN_i64 4 16 (by decide) (by decide) (by decide) rfl (E rfl rfl) (E rfl rfl) (fun hg => ⟨by omega, by omega⟩)) ?_
   refine Y1 (Yv.buildS rfl sh_23 (evpC (E rfl rfl) (evpC (E rfl rfl) (evpC (E rfl rfl) evp0))) (fun _ => rfl)) ?_
   refine AWL.storeBox (i := 2) rfl rfl rfl ag_23 rfl (E rfl rfl) (E rfl rfl) rfl rfl (Nat.le_of_ble_eq_true rfl) ?_
   refine nl ?_
   refine AW.ret (retI (.cellA (i := 2) rfl ag_23 rfl rfl rfl .nil) ?_)
   rw [farR, if_neg (ne_true_of_eq_false h0f), farIn, if_pos h1t]
   exact ⟨rfl, _, rfl⟩
  try replace h1f := of_decide_eq_false h1f
  refine AW.rseq ?_
  refine Y1 (Yv.fieldBox rfl fo_87_0 eV) ?_
  refine Y1 (Yv.loadBox rfl ag_3 (i := 1) rfl (E rfl rfl) rfl) ?_
  refine Y1 (Yv.eql rfl eV eV) ?_
  refine Y1 (Yv.move rfl eV) ?_
  refine AWL.ygT rfl rfl rfl rfl (B rfl) (Yv.move rfl (E rfl rfl)) ?_
  refine AWL.ygT rfl rfl rfl rfl (B rfl) (Yv.bits rfl rfl (Eg rfl rfl id) (E rfl rfl)) ?_
  refine AWL.ygT rfl rfl rfl rfl (B rfl) (Yv.eql rfl (Eg rfl rfl id) (E rfl rfl)) ?_
  refine Y1 (Yv.pickAnd rfl (E rfl rfl) (Eg rfl rfl id)) ?_
  refine Y1 (Yv.assign rfl eV) ?_
  refine nl ?_
  refine AW.cond rfl (fun h2t => ?_) (fun h2f => ?_)
  ·
   try replace h2t := of_decide_eq_true h2t
   refine AW.rseq ?_
   refine Y1 (Yv.move rfl eV) ?_
   refine Y1 (Yv.loadBoxA rfl ag_87 (i := 1) rfl (E rfl rfl) rfl rfl) ?_
   refine C1 rfl ce_78 (E rfl rfl) (evsC (E rfl rfl) (evsC (E rfl rfl) evs0)) (S1 := [Ent.box b 68 (rdCells bs (nextF bs (farD1 x r)).2)]) (S2 := _) rfl (two78 b bs (nextF bs (farD1 x r)).2 hb hok2 x) ?_
   rintro t75 S75 ⟨rfl, E75, rfl⟩
   refine AWL.tuck ?_
   refine Y1 (Yv.move rfl eV) ?_
   refine Y1 (Yv.extract rfl eV rfl) ?_
   refine Y1 (Yv.extract rfl eV rfl) ?_
   refine Y1 (Yv.assign rfl eV) ?_
   refine Y1 (Yv.assign rfl eV) ?_
   refine nl ?_
   refine AW.rseq ?_
   refine Y1 (Yv.move rfl eV) ?_
   refine Y1 (Yv.move rfl eV) ?_
   refine Y1 (Yv.move rfl eV) ?_
   refine Y1 (Yv.andN_i64 4 16 (by decide) (by decide) (by decide) rfl (E rfl rfl) (E rfl rfl) (fun hg => ⟨by omega, by omega⟩)) ?_
   refine Y1 (Yv.buildS rfl sh_23 (evpC (E rfl rfl) (evpC (E rfl rfl) (evpC (E rfl rfl) (evpC (E rfl rfl) evp0)))) (fun _ => rfl)) ?_
   refine AWL.storeBox (i := 2) rfl rfl rfl ag_23 rfl (E rfl rfl) (E rfl rfl) rfl rfl (Nat.le_of_ble_eq_true rfl) ?_
   refine nl ?_
   refine AW.ret (retI (.cellA (i := 2) rfl ag_23 rfl rfl rfl .nil) ?_)
   rw [farR, if_neg (ne_true_of_eq_false h0f), farIn, if_neg (ne_true_of_eq_false h1f), if_pos h2t]
   exact ⟨rfl, _, rfl⟩
  try replace h2f := of_decide_eq_false h2f
  refine AW.rseq ?_
  refine Y1 (Yv.fieldBox rfl fo_87_0 eV) ?_
  refine Y1 (Yv.loadBox rfl ag_3 (i := 1) rfl (E rfl rfl) rfl) ?_
  refine Y1 (Yv.eql rfl eV eV) ?_
  refine Y1 (Yv.move rfl eV) ?_
  refine AWL.ygT rfl rfl rfl rfl (B rfl) (Yv.move rfl (E rfl rfl)) ?_
  refine AWL.ygT rfl rfl rfl rfl (B rfl) (Yv.eql rfl (Eg rfl rfl id) (E rfl rfl)) ?_
  refine Y1 (Yv.pickAnd rfl (E rfl rfl) (Eg rfl rfl id)) ?_
  refine Y1 (Yv.assign rfl eV) ?_
  refine nl ?_
  refine AW.cond rfl (fun h3t => ?_) (fun h3f => ?_)
  ·
   try replace h3t := of_decide_eq_true h3t
   refine AW.rseq ?_
   refine Y1 (Yv.move rfl eV) ?_
   refine Y1 (Yv.loadBoxA rfl ag_87 (i := 1) rfl (E rfl rfl) rfl rfl) ?_
   refine C1 rfl ce_78 (E rfl rfl) (evsC (E rfl rfl) (evsC (E rfl rfl) evs0)) (S1 := [Ent.box b 68 (rdCells bs (nextF bs (farD1 x r)).2)]) (S2 := _) rfl (two78 b bs (nextF bs (farD1 x r)).2 hb hok2 x) ?_
   rintro t94 S94 ⟨rfl, E94, rfl⟩
   refine AWL.tuck ?_
   refine Y1 (Yv.move rfl eV) ?_
   refine Y1 (Yv.extract rfl eV rfl) ?_
   refine Y1 (Yv.extract rfl eV rfl) ?_
   refine Y1 (Yv.assign rfl eV) ?_
   refine Y1 (Yv.assign rfl eV) ?_
   refine nl ?_
   refine AW.rseq ?_
   refine Y1 (Yv.move rfl eV) ?_
   refine Y1 (Yv.move rfl eV) ?_
   refine Y1 (Yv.buildS rfl sh_23 (evpC (E rfl rfl) (evpC (E rfl rfl) (evpC (E rfl rfl) evp0))) (fun _ => rfl)) ?_
   refine AWL.storeBox (i := 2) rfl rfl rfl ag_23 rfl (E rfl rfl) (E rfl rfl) rfl rfl (Nat.le_of_ble_eq_true rfl) ?_
   refine nl ?_
   refine AW.ret (retI (.cellA (i := 2) rfl ag_23 rfl rfl rfl .nil) ?_)
   rw [farR, if_neg (ne_true_of_eq_false h0f), farIn, if_neg (ne_true_of_eq_false h1f), if_neg (ne_true_of_eq_false h2f), if_pos h3t]
   exact ⟨rfl, _, rfl⟩
  try replace h3f := of_decide_eq_false h3f
  refine AW.rseq ?_
  refine Y1 (Yv.fieldBox rfl fo_87_0 eV) ?_
  refine Y1 (Yv.loadBox rfl ag_3 (i := 1) rfl (E rfl rfl) rfl) ?_
  refine Y1 (Yv.eql rfl eV eV) ?_
  refine Y1 (Yv.move rfl eV) ?_
  refine AWL.ygT rfl rfl rfl rfl (B rfl) (Yv.move rfl (E rfl rfl)) ?_
  refine AWL.ygT rfl rfl rfl rfl (B rfl) (Yv.eql rfl (Eg rfl rfl id) (E rfl rfl)) ?_
  refine Y1 (Yv.pickAnd rfl (E rfl rfl) (Eg rfl rfl id)) ?_
  refine Y1 (Yv.assign rfl eV) ?_
  refine nl ?_
  refine AW.cond rfl (fun h4t => ?_) (fun h4f => ?_)
  ·
   try replace h4t := of_decide_eq_true h4t
   refine AW.seq ?_
   refine AW.rseqQ rfl (by kernel_rfl) ?_
   refine AWQ.y rfl rfl (B rfl) (Yv.move rfl (E rfl rfl)) ?_
   refine AWQ.y rfl rfl (B rfl) (Yv.nilChk rfl (E rfl rfl)) ?_
   refine AWQ.y rfl rfl (B rfl) (Yv.fieldBox rfl fo_68_1 (E rfl rfl)) ?_
   refine AWQ.y rfl rfl (B rfl) (Yv.loadBox rfl ag_3 (i := 0) rfl (E rfl rfl) rfl) ?_
   refine AWQ.y rfl rfl (B rfl) (Yv.move rfl (E rfl rfl)) ?_
   refine AWQ.y rfl rfl (B rfl) (Yv.nilChk rfl (E rfl rfl)) ?_
   refine AWQ.y rfl rfl (B rfl) (Yv.fieldBox rfl fo_68_0 (E rfl rfl)) ?_
   refine AWQ.y rfl rfl (B rfl) (Yv.loadBox rfl ag_24 (i := 0) rfl (E rfl rfl) rfl) ?_
   refine AWQ.y rfl rfl (B rfl) (Yv.lenSl rfl so_24 (B rfl) (E rfl rfl) len_u8s) ?_
   refine AWQ.y rfl rfl (B rfl) (Yv.lss rfl (E rfl rfl) (E rfl rfl)) ?_
   refine AWQ.y rfl rfl (B rfl) (Yv.move rfl (E rfl rfl)) ?_
   refine AWQ.ygT rfl rfl rfl rfl (B rfl) (Yv.move rfl (E rfl rfl)) ?_
   refine AWQ.ygT rfl rfl rfl rfl (B rfl) (Yv.nilChk rfl (Eg rfl rfl id)) ?_
   refine AWQ.ygT rfl rfl rfl rfl (B rfl) (Yv.fieldBox rfl fo_68_0 (Eg rfl rfl id)) ?_
   refine AWQ.ygT rfl rfl rfl rfl (B rfl) (Yv.loadBox rfl ag_24 (i := 0) rfl (Eg rfl rfl id) rfl) ?_
   refine AWQ.ygT rfl rfl rfl rfl (B rfl) (Yv.move rfl (E rfl rfl)) ?_
   refine AWQ.ygT rfl rfl rfl rfl (B rfl) (Yv.nilChk rfl (Eg rfl rfl id)) ?_
   refine AWQ.ygT rfl rfl rfl rfl (B rfl) (Yv.fieldBox rfl fo_68_1 (Eg rfl rfl id)) ?_
   refine AWQ.ygT rfl rfl rfl rfl (B rfl) (Yv.loadBox rfl ag_3 (i := 0) rfl (Eg rfl rfl id) rfl) ?_
   refine AWQ.ygT rfl rfl rfl rfl (B rfl) (Yv.indexSl rfl ss_24 (B rfl) (Eg rfl rfl id) (Eg rfl rfl id) (fun hg => ⟨rfl, (by first | omega | (simp only [len_u8s, len_ints]; omega) | (simp only [len_u8s, len_ints]; simp only [Bool.and_eq_true, Bool.or_eq_false_iff, Bool.not_eq_true', Bool.not_eq_false', decide_eq_true_eq, decide_eq_false_iff_not] at hg; omega))⟩)) ?_
   refine AWQ.ygT rfl rfl rfl rfl (B rfl) (Yv.loadRp rfl ag_5 (Eg rfl rfl id) (fun hg => u8_get (by simp only [Bool.true_and, decide_eq_true_eq] at hg; omega))) ?_
   refine AWQ.ygT rfl rfl rfl rfl (B rfl) (Yv.shrC 64 (by decide) (by decide) (by decide) rfl (Eg rfl rfl id) (E rfl rfl)) ?_
   refine AWQ.ygT rfl rfl rfl rfl (B rfl) (Yv.eql rfl (Eg rfl rfl id) (E rfl rfl)) ?_
   refine AWQ.y rfl rfl (B rfl) (Yv.pickAnd rfl (E rfl rfl) (Eg rfl rfl id)) ?_
   refine AWQ.nil ?_
   refine AW.cond rfl (fun h5t => ?_) (fun h5f => ?_)
   ·
    try replace h5t := of_decide_eq_true h5t
    refine AW.rseq ?_
    refine Y1 (Yv.move rfl eV) ?_
    refine Y1 (Yv.loadBoxA rfl ag_87 (i := 1) rfl (E rfl rfl) rfl rfl) ?_
    refine C1 rfl ce_74 (E rfl rfl) (evsC (E rfl rfl) (evsC (E rfl rfl) evs0)) (S1 := [Ent.box b 68 (rdCells bs (nextF bs (farD1 x r)).2)]) (S2 := _) rfl (mem74 b bs (nextF bs (farD1 x r)).2 hb hok2 x) ?_
    rintro t135 S135 ⟨rfl, E135, rfl⟩
    refine AWL.tuck ?_
    refine Y1 (Yv.move rfl eV) ?_
    refine Y1 (Yv.extract rfl eV rfl) ?_
    refine Y1 (Yv.extract rfl eV rfl) ?_
    refine Y1 (Yv.extract rfl eV rfl) ?_
    refine Y1 (Yv.assign rfl eV) ?_
    refine Y1 (Yv.assign rfl eV) ?_
    refine Y1 (Yv.assign rfl eV) ?_
    refine nl ?_
    refine AW.rseq ?_
    refine Y1 (Yv.move rfl eV) ?_
    refine Y1 (Yv.move rfl eV) ?_
    refine Y1 (Yv.move rfl eV) ?_
    refine Y1 (Yv.buildS rfl sh_23 (evpC (E rfl rfl) (evpC (E rfl rfl) (evpC (E rfl rfl) (evpC (E rfl rfl) (evpC (E rfl rfl) evp0))))) (fun _ => rfl)) ?_
    refine AWL.storeBox (i := 2) rfl rfl rfl ag_23 rfl (E rfl rfl) (E rfl rfl) rfl rfl (Nat.le_of_ble_eq_true rfl) ?_
    refine nl ?_
    refine AW.ret (retI (.cellA (i := 2) rfl ag_23 rfl rfl rfl .nil) ?_)
    rw [farR, if_neg (ne_true_of_eq_false h0f), farIn, if_neg (ne_true_of_eq_false h1f), if_neg (ne_true_of_eq_false h2f), if_neg (ne_true_of_eq_false h3f), if_pos h4t, if_pos (show peekF bs (nextF bs (farD1 x r)).2 = true from h5t)]
    exact ⟨rfl, _, rfl⟩
   try replace h5f := of_decide_eq_false h5f
   refine AW.skip ?_
   refine AW.rseq ?_
   refine Y1 (Yv.move rfl eV) ?_
   refine Y1 (Yv.loadBoxA rfl ag_87 (i := 1) rfl (E rfl rfl) rfl rfl) ?_
   refine C1 rfl ce_78 (E rfl rfl) (evsC (E rfl rfl) (evsC (E rfl rfl) evs0)) (S1 := [Ent.box b 68 (rdCells bs (nextF bs (farD1 x r)).2)]) (S2 := _) rfl (two78 b bs (nextF bs (farD1 x r)).2 hb hok2 x) ?_
   rintro t146 S146 ⟨rfl, E146, rfl⟩
   refine AWL.tuck ?_
   refine Y1 (Yv.move rfl eV) ?_
   refine Y1 (Yv.extract rfl eV rfl) ?_
   refine Y1 (Yv.extract rfl eV rfl) ?_
   refine Y1 (Yv.assign rfl eV) ?_
   refine Y1 (Yv.assign rfl eV) ?_
   refine nl ?_
   refine AW.rseq ?_
   refine Y1 (Yv.move rfl eV) ?_
   refine Y1 (Yv.move rfl eV) ?_
   refine Y1 (Yv.buildS rfl sh_23 (evpC (E rfl rfl) (evpC (E rfl rfl) (evpC (E rfl rfl) evp0))) (fun _ => rfl)) ?_
   refine AWL.storeBox (i := 2) rfl rfl rfl ag_23 rfl (E rfl rfl) (E rfl rfl) rfl rfl (Nat.le_of_ble_eq_true rfl) ?_
   refine nl ?_
   refine AW.ret (retI (.cellA (i := 2) rfl ag_23 rfl rfl rfl .nil) ?_)
   rw [farR, if_neg (ne_true_of_eq_false h0f), farIn, if_neg (ne_true_of_eq_false h1f), if_neg (ne_true_of_eq_false h2f), if_neg (ne_true_of_eq_false h3f), if_pos h4t, if_neg (show ¬ peekF bs (nextF bs (farD1 x r)).2 = true from ne_true_of_eq_false h5f)]
   exact ⟨rfl, _, rfl⟩
  try replace h4f := of_decide_eq_false h4f
  refine AW.skip ?_
  refine AW.rseq ?_
  refine Y1 (Yv.move rfl eV) ?_
  refine C1 rfl ce_59 (E rfl rfl) (evsC (E rfl rfl) (evsC (E rfl rfl) evs0)) (S1 := [Ent.box b 68 (rdCells bs (nextF bs (farD1 x r)).2)]) (S2 := _) rfl (must64 b bs (nextF bs (farD1 x r)).2 false) ?_
  rintro t153 S153 rfl
  refine nl ?_
  refine AW.rseq ?_
  refine Y1 (Yv.buildS rfl sh_23 evp0 (fun _ => rfl)) ?_
  refine AWL.storeBox (i := 2) rfl rfl rfl ag_23 rfl (E rfl rfl) (E rfl rfl) rfl rfl (Nat.le_of_ble_eq_true rfl) ?_
  refine nl ?_
  refine AW.ret (retI (.cellA (i := 2) rfl ag_23 rfl rfl rfl .nil) ?_)
  rw [farR, if_neg (ne_true_of_eq_false h0f), farIn, if_neg (ne_true_of_eq_false h1f), if_neg (ne_true_of_eq_false h2f), if_neg (ne_true_of_eq_false h3f), if_neg (ne_true_of_eq_false h4f)]
  exact ⟨rfl, _, rfl⟩

end Go.Proofs.YtjndpakhmgapjaaDoor

namespace Go.Proofs.YtjndpakhmgapjaaDoor
open Go Go.RowKit
set_option linter.unusedVariables false
set_option linter.unnecessarySimpa false
set_option linter.unusedSimpArgs false

set_option maxHeartbeats 2000000 in
theorem real67 (b : Nat) (bs : List UInt8) (r : Rd) (hb : bs.length ≤ 1099511627776) (hr : RdOk bs r) (first : Int) :
    ACalls Tryd.prog 62 [.v (.pointer (some ⟨b, 0, none⟩)), .v (.int .i64 first)] [Ent.box b 68 (rdCells bs r)] (fun t_ S => t_ = insT (realR bs first r).1 ∧ ∃ E, S = Ent.box b 68 (rdCells bs (realR bs first r).2) :: E) := by
  obtain ⟨hx0, hx1⟩ := next_range bs r
  have hok1 : RdOk bs (realD1 bs r) := must_ok (next_ok hr) _
  have hok2 : RdOk bs (realD2 bs r) := must_ok (next_ok hok1) _
  have hok3 := next_ok hok2
  refine ACalls.intro Tryd.func62 rfl Tryd.ntmps62 (Nat.le_of_ble_eq_true rfl) rfl fun X w0 => ?_
  refine AW.rseq ?_
  refine AWL.allocOp rfl rfl (B rfl) rfl zc_23 (fun b4 => ?_)
  refine nl ?_
  refine AW.rseq ?_
  refine Y1 (Yv.move rfl eV) ?_
  refine C1 rfl ce_58 (E rfl rfl) (evsC (E rfl rfl) evs0) (S1 := [Ent.box b 68 (rdCells bs r)]) (S2 := _) rfl (next63 b bs r hb hr) ?_
  rintro t15 S15 ⟨rfl, rfl⟩
  refine Y1 (Yv.assign rfl eV) ?_
  refine nl ?_
  refine AW.seq ?_
  refine AW.rseq ?_
  refine Y1 (Yv.move rfl eV) ?_
  refine Y1 (Yv.nilChk rfl eV) ?_
  refine Y1 (Yv.fieldBox rfl fo_68_2 eV) ?_
  refine Y1 (Yv.loadBox rfl ag_4 (i := 0) rfl (E rfl rfl) rfl) ?_
  refine nl ?_
  refine AW.cond rfl (fun h0t => ?_) (fun h0f => ?_)
  ·
   try replace h0t := of_decide_eq_true h0t
   refine AW.rseq ?_
   refine Y1 (Yv.buildS rfl sh_23 evp0 (fun _ => rfl)) ?_
   refine AWL.storeBox (i := 1) rfl rfl rfl ag_23 rfl (E rfl rfl) (E rfl rfl) rfl rfl (Nat.le_of_ble_eq_true rfl) ?_
   refine nl ?_
   refine AW.ret (retI (.cellA (i := 1) rfl ag_23 rfl rfl rfl .nil) ?_)
   rw [realR, if_pos h0t]
   exact ⟨rfl, _, rfl⟩
  try replace h0f := of_decide_eq_false h0f
  refine AW.skip ?_
  refine AW.rseq ?_
  refine Y1 (Yv.move rfl eV) ?_
  refine Y1 (Yv.move rfl eV) ?_
  refine Y1 (Yv.bits rfl rfl (E rfl rfl) (E rfl rfl)) ?_
  refine Y1 (Yv.eql rfl eV eV) ?_
  refine C1 rfl ce_59 (E rfl rfl) (evsC (E rfl rfl) (evsC (E rfl rfl) evs0)) (S1 := [Ent.box b 68 (rdCells bs (nextF bs r).2)]) (S2 := _) rfl (must64 b bs (nextF bs r).2 (decide (andI (nextF bs r).1 242 = 64))) ?_
  rintro t25 S25 rfl
  refine nl ?_
  refine AW.rseq ?_
  refine Y1 (Yv.move rfl eV) ?_
  refine AWL.callT rfl rfl (B rfl) rfl ce_61 (E rfl rfl) (evsC (E rfl rfl) evs0) (split66 (nextF bs r).1 hx0 hx1) ?_
  rintro t27 S27 rfl
  refine AWL.allocOp rfl rfl (B rfl) rfl zc_87 (fun b6 => ?_)
  refine AWL.storeBox (i := 2) rfl rfl rfl ag_87 rfl (E rfl rfl) (E rfl rfl) rfl rfl (Nat.le_of_ble_eq_true rfl) ?_
  refine nl ?_
  refine AW.rseq ?_
  refine Y1 (Yv.move rfl eV) ?_
  refine C1 rfl ce_58 (E rfl rfl) (evsC (E rfl rfl) evs0) (S1 := [Ent.box b 68 (rdCells bs (realD1 bs r))]) (S2 := _) rfl (next63 b bs (realD1 bs r) hb hok1) ?_
  rintro t29 S29 ⟨rfl, rfl⟩
  refine Y1 (Yv.assign rfl eV) ?_
  refine nl ?_
  refine AW.rseq ?_
  refine Y1 (Yv.move rfl eV) ?_
  refine Y1 (Yv.move rfl eV) ?_
  refine Y1 (Yv.eql rfl eV eV) ?_
  refine C1 rfl ce_59 (E rfl rfl) (evsC (E rfl rfl) (evsC (E rfl rfl) evs0)) (S1 := [Ent.box b 68 (rdCells bs (nextF bs (realD1 bs r)).2)]) (S2 := _) rfl (must64 b bs (nextF bs (realD1 bs r)).2 (decide ((nextF bs (realD1 bs r)).1 = 15))) ?_
  rintro t33 S33 rfl
  refine nl ?_
  refine AW.rseq ?_
  refine Y1 (Yv.move rfl eV) ?_
  refine C1 rfl ce_58 (E rfl rfl) (evsC (E rfl rfl) evs0) (S1 := [Ent.box b 68 (rdCells bs (realD2 bs r))]) (S2 := _) rfl (next63 b bs (realD2 bs r) hb hok2) ?_
  rintro t35 S35 ⟨rfl, rfl⟩
  refine Y1 (Yv.assign rfl eV) ?_
  refine nl ?_
  refine AW.seq ?_
  refine AW.rseq ?_
  refine Y1 (Yv.move rfl eV) ?_
  refine Y1 (Yv.nilChk rfl eV) ?_
  refine Y1 (Yv.fieldBox rfl fo_68_2 eV) ?_
  refine Y1 (Yv.loadBox rfl ag_4 (i := 0) rfl (E rfl rfl) rfl) ?_
  refine Y1 (Yv.move rfl eV) ?_
  refine AWL.ygF rfl rfl rfl rfl (B rfl) (Yv.move rfl (E rfl rfl)) ?_
  refine AWL.ygF rfl rfl rfl rfl (B rfl) (Yv.nilChk rfl (Eg rfl rfl id)) ?_
  refine AWL.ygF rfl rfl rfl rfl (B rfl) (Yv.fieldBox rfl fo_68_3 (Eg rfl rfl id)) ?_
  refine AWL.ygF rfl rfl rfl rfl (B rfl) (Yv.loadBox rfl ag_4 (i := 0) rfl (Eg rfl rfl id) rfl) ?_
  refine Y1 (Yv.pickOr (t := .const (.bool true)) rfl (E rfl rfl) (Eg rfl rfl id)) ?_
  refine nl ?_
  refine AW.cond rfl (fun h1t => ?_) (fun h1f => ?_)
  ·
   try replace h1t := of_decide_eq_true h1t
   refine AW.rseq ?_
   refine Y1 (Yv.buildS rfl sh_23 evp0 (fun _ => rfl)) ?_
   refine AWL.storeBox (i := 1) rfl rfl rfl ag_23 rfl (E rfl rfl) (E rfl rfl) rfl rfl (Nat.le_of_ble_eq_true rfl) ?_
   refine nl ?_
   refine AW.ret (retI (.cellA (i := 1) rfl ag_23 rfl rfl rfl .nil) ?_)
   rw [realR, if_neg (ne_true_of_eq_false h0f), if_pos h1t]
   exact ⟨rfl, _, rfl⟩
  try replace h1f := of_decide_eq_false h1f
  refine AW.skip ?_
  refine AW.rseq ?_
  refine Y1 (Yv.assign rfl eV) ?_
  refine nl ?_
  refine AW.mid (α := Unit) (fun _ => [(0, true, .v (.pointer (some ⟨b, 0, none⟩))), (1, true, .v (.int .i64 first)), (4, true, .v (.pointer (some ⟨b4, 0, none⟩))), (6, true, .v (.pointer (some ⟨b6, 0, none⟩))), (8, true, .v (.int .i64 (nextF bs (realD2 bs r)).1)), (9, true, .v (.int .i64 (realK first (splitF (nextF bs r).1) (nextF bs (realD2 bs r)).1)))]) (fun _ => [Ent.box b 68 (rdCells bs (nextF bs (realD2 bs r)).2), .box b4 23 (insCells nilI), .box b6 87 (rxCells (splitF (nextF bs r).1))]) (fun _ => ¬ (decide (first = 102) && decide ((splitF (nextF bs r).1).wide = 1) && decide ((nextF bs (realD2 bs r)).1 = 126)) = true) ?_ ?_
  ·
   refine AW.block ?_
   refine AW.rseq ?_
   refine Y1 (Yv.move rfl eV) ?_
   refine Y1 (Yv.eql rfl eV eV) ?_
   refine Y1 (Yv.move rfl eV) ?_
   refine AWL.ygT rfl rfl rfl rfl (B rfl) (Yv.fieldBox rfl fo_87_0 (E rfl rfl)) ?_
   refine AWL.ygT rfl rfl rfl rfl (B rfl) (Yv.loadBox rfl ag_3 (i := 2) rfl (Eg rfl rfl id) rfl) ?_
   refine AWL.ygT rfl rfl rfl rfl (B rfl) (Yv.eql rfl (Eg rfl rfl id) (E rfl rfl)) ?_
   refine Y1 (Yv.pickAnd rfl (E rfl rfl) (Eg rfl rfl id)) ?_
   refine Y1 (Yv.move rfl eV) ?_
   refine AWL.ygT rfl rfl rfl rfl (B rfl) (Yv.move rfl (E rfl rfl)) ?_
   refine AWL.ygT rfl rfl rfl rfl (B rfl) (Yv.eql rfl (Eg rfl rfl id) (E rfl rfl)) ?_
   refine Y1 (Yv.pickAnd rfl (E rfl rfl) (Eg rfl rfl id)) ?_
   refine Y1 (Yv.assign rfl eV) ?_
   refine nl ?_
   refine AW.cond rfl (fun h2t => ?_) (fun h2f => ?_)
   ·
    try replace h2t := of_decide_eq_true h2t
    refine AW.region ?_
    refine Y1 (Yv.assign rfl eV) ?_
    refine nl ?_
    exact ⟨(), (by intro hq; simp only [Bool.or_eq_true, Bool.and_eq_true, Bool.or_eq_false_iff, Bool.and_eq_false_iff, Bool.not_eq_true', Bool.not_eq_false', decide_eq_true_eq, decide_eq_false_iff_not, Decidable.not_not] at hq h2t; omega), (Sub.cons rfl rfl (Sub.cons rfl rfl (Sub.cons rfl rfl (Sub.cons rfl rfl (Sub.cons rfl rfl (Sub.cons rfl (by rw [realK, if_pos h2t] <;> rfl) Sub.nil)))))), rfl⟩
   try replace h2f := of_decide_eq_false h2f
   refine AW.rseq ?_
   refine Y1 (Yv.move rfl eV) ?_
   refine Y1 (Yv.eql rfl eV eV) ?_
   refine Y1 (Yv.move rfl eV) ?_
   refine AWL.ygT rfl rfl rfl rfl (B rfl) (Yv.fieldBox rfl fo_87_0 (E rfl rfl)) ?_
   refine AWL.ygT rfl rfl rfl rfl (B rfl) (Yv.loadBox rfl ag_3 (i := 2) rfl (Eg rfl rfl id) rfl) ?_
   refine AWL.ygT rfl rfl rfl rfl (B rfl) (Yv.eql rfl (Eg rfl rfl id) (E rfl rfl)) ?_
   refine Y1 (Yv.pickAnd rfl (E rfl rfl) (Eg rfl rfl id)) ?_
   refine Y1 (Yv.move rfl eV) ?_
   refine AWL.ygT rfl rfl rfl rfl (B rfl) (Yv.move rfl (E rfl rfl)) ?_
   refine AWL.ygT rfl rfl rfl rfl (B rfl) (Yv.eql rfl (Eg rfl rfl id) (E rfl rfl)) ?_
   refine Y1 (Yv.pickAnd rfl (E rfl rfl) (Eg rfl rfl id)) ?_
   refine Y1 (Yv.assign rfl eV) ?_
   refine nl ?_
   refine AW.cond rfl (fun h3t => ?_) (fun h3f => ?_)
   ·
    try replace h3t := of_decide_eq_true h3t
    refine AW.rseq ?_
    refine Y1 (Yv.move rfl eV) ?_
    refine Y1 (Yv.loadBoxA rfl ag_87 (i := 2) rfl (E rfl rfl) rfl rfl) ?_
    refine C1 rfl ce_78 (E rfl rfl) (evsC (E rfl rfl) (evsC (E rfl rfl) evs0)) (S1 := [Ent.box b 68 (rdCells bs (nextF bs (realD2 bs r)).2)]) (S2 := _) rfl (two78 b bs (nextF bs (realD2 bs r)).2 hb hok3 (splitF (nextF bs r).1)) ?_
    rintro t74 S74 ⟨rfl, E74, rfl⟩
    refine AWL.tuck ?_
    refine Y1 (Yv.move rfl eV) ?_
    refine Y1 (Yv.extract rfl eV rfl) ?_
    refine Y1 (Yv.extract rfl eV rfl) ?_
    refine Y1 (Yv.assign rfl eV) ?_
    refine Y1 (Yv.assign rfl eV) ?_
    refine nl ?_
    refine AW.rseq ?_
    refine Y1 (Yv.move rfl eV) ?_
    refine Y1 (Yv.move rfl eV) ?_
    refine Y1 (Yv.buildS rfl sh_23 (evpC (E rfl rfl) (evpC (E rfl rfl) (evpC (E rfl rfl) evp0))) (fun _ => rfl)) ?_
    refine AWL.storeBox (i := 1) rfl rfl rfl ag_23 rfl (E rfl rfl) (E rfl rfl) rfl rfl (Nat.le_of_ble_eq_true rfl) ?_
    refine nl ?_
    refine AW.ret (retI (.cellA (i := 1) rfl ag_23 rfl rfl rfl .nil) ?_)
    rw [realR, if_neg (ne_true_of_eq_false h0f), if_neg (ne_true_of_eq_false h1f), realIn, if_pos h3t]
    exact ⟨rfl, _, rfl⟩
   try replace h3f := of_decide_eq_false h3f
   refine AW.rseq ?_
   refine Y1 (Yv.move rfl eV) ?_
   refine Y1 (Yv.eql rfl eV eV) ?_
   refine Y1 (Yv.move rfl eV) ?_
   refine AWL.ygT rfl rfl rfl rfl (B rfl) (Yv.fieldBox rfl fo_87_0 (E rfl rfl)) ?_
   refine AWL.ygT rfl rfl rfl rfl (B rfl) (Yv.loadBox rfl ag_3 (i := 2) rfl (Eg rfl rfl id) rfl) ?_
   refine AWL.ygT rfl rfl rfl rfl (B rfl) (Yv.eql rfl (Eg rfl rfl id) (E rfl rfl)) ?_
   refine Y1 (Yv.pickAnd rfl (E rfl rfl) (Eg rfl rfl id)) ?_
   refine Y1 (Yv.move rfl eV) ?_
   refine AWL.ygT rfl rfl rfl rfl (B rfl) (Yv.move rfl (E rfl rfl)) ?_
   refine AWL.ygT rfl rfl rfl rfl (B rfl) (Yv.eql rfl (Eg rfl rfl id) (E rfl rfl)) ?_
   refine Y1 (Yv.pickAnd rfl (E rfl rfl) (Eg rfl rfl id)) ?_
   refine Y1 (Yv.assign rfl eV) ?_
   refine nl ?_
   refine AW.cond rfl (fun h4t => ?_) (fun h4f => ?_)
   ·
    try replace h4t := of_decide_eq_true h4t
    refine AW.region ?_
    refine Y1 (Yv.assign rfl eV) ?_
    refine nl ?_
    exact ⟨(), (ne_true_of_eq_false h3f), (Sub.cons rfl rfl (Sub.cons rfl rfl (Sub.cons rfl rfl (Sub.cons rfl rfl (Sub.cons rfl rfl (Sub.cons rfl (by rw [realK, if_neg (ne_true_of_eq_false h2f), if_pos h4t] <;> rfl) Sub.nil)))))), rfl⟩
   try replace h4f := of_decide_eq_false h4f
   refine AW.rseq ?_
   refine Y1 (Yv.move rfl eV) ?_
   refine Y1 (Yv.eql rfl eV eV) ?_
   refine Y1 (Yv.move rfl eV) ?_
   refine AWL.ygT rfl rfl rfl rfl (B rfl) (Yv.fieldBox rfl fo_87_0 (E rfl rfl)) ?_
   refine AWL.ygT rfl rfl rfl rfl (B rfl) (Yv.loadBox rfl ag_3 (i := 2) rfl (Eg rfl rfl id) rfl) ?_
   refine AWL.ygT rfl rfl rfl rfl (B rfl) (Yv.eql rfl (Eg rfl rfl id) (E rfl rfl)) ?_
   refine Y1 (Yv.pickAnd rfl (E rfl rfl) (Eg rfl rfl id)) ?_
   refine Y1 (Yv.move rfl eV) ?_
   refine AWL.ygT rfl rfl rfl rfl (B rfl) (Yv.move rfl (E rfl rfl)) ?_
   refine AWL.ygT rfl rfl rfl rfl (B rfl) (Yv.eql rfl (Eg rfl rfl id) (E rfl rfl)) ?_
   refine Y1 (Yv.pickAnd rfl (E rfl rfl) (Eg rfl rfl id)) ?_
   refine Y1 (Yv.assign rfl eV) ?_
   refine nl ?_
   refine AW.cond rfl (fun h5t => ?_) (fun h5f => ?_)
   ·
    try replace h5t := of_decide_eq_true h5t
    refine AW.region ?_
    refine Y1 (Yv.assign rfl eV) ?_
    refine nl ?_
    exact ⟨(), (ne_true_of_eq_false h3f), (Sub.cons rfl rfl (Sub.cons rfl rfl (Sub.cons rfl rfl (Sub.cons rfl rfl (Sub.cons rfl rfl (Sub.cons rfl (by rw [realK, if_neg (ne_true_of_eq_false h2f), if_neg (ne_true_of_eq_false h4f), if_pos h5t] <;> rfl) Sub.nil)))))), rfl⟩
   try replace h5f := of_decide_eq_false h5f
   refine AW.rseq ?_
   refine Y1 (Yv.move rfl eV) ?_
   refine Y1 (Yv.eql rfl eV eV) ?_
   refine Y1 (Yv.move rfl eV) ?_
   refine AWL.ygT rfl rfl rfl rfl (B rfl) (Yv.fieldBox rfl fo_87_0 (E rfl rfl)) ?_
   refine AWL.ygT rfl rfl rfl rfl (B rfl) (Yv.loadBox rfl ag_3 (i := 2) rfl (Eg rfl rfl id) rfl) ?_
   refine AWL.ygT rfl rfl rfl rfl (B rfl) (Yv.eql rfl (Eg rfl rfl id) (E rfl rfl)) ?_
   refine Y1 (Yv.pickAnd rfl (E rfl rfl) (Eg rfl rfl id)) ?_
   refine Y1 (Yv.move rfl eV) ?_
   refine AWL.ygT rfl rfl rfl rfl (B rfl) (Yv.move rfl (E rfl rfl)) ?_
   refine AWL.ygT rfl rfl rfl rfl (B rfl) (Yv.eql rfl (Eg rfl rfl id) (E rfl rfl)) ?_
   refine Y1 (Yv.pickAnd rfl (E rfl rfl) (Eg rfl rfl id)) ?_
   refine Y1 (Yv.assign rfl eV) ?_
   refine nl ?_
   refine AW.cond rfl (fun h6t => ?_) (fun h6f => ?_)
   ·
    try replace h6t := of_decide_eq_true h6t
    refine AW.region ?_
    refine Y1 (Yv.assign rfl eV) ?_
    refine nl ?_
    exact ⟨(), (ne_true_of_eq_false h3f), (Sub.cons rfl rfl (Sub.cons rfl rfl (Sub.cons rfl rfl (Sub.cons rfl rfl (Sub.cons rfl rfl (Sub.cons rfl (by rw [realK, if_neg (ne_true_of_eq_false h2f), if_neg (ne_true_of_eq_false h4f), if_neg (ne_true_of_eq_false h5f), if_pos h6t] <;> rfl) Sub.nil)))))), rfl⟩
   try replace h6f := of_decide_eq_false h6f
   refine AW.rseq ?_
   refine Y1 (Yv.move rfl eV) ?_
   refine Y1 (Yv.eql rfl eV eV) ?_
   refine Y1 (Yv.move rfl eV) ?_
   refine AWL.ygT rfl rfl rfl rfl (B rfl) (Yv.fieldBox rfl fo_87_0 (E rfl rfl)) ?_
   refine AWL.ygT rfl rfl rfl rfl (B rfl) (Yv.loadBox rfl ag_3 (i := 2) rfl (Eg rfl rfl id) rfl) ?_
   refine AWL.ygT rfl rfl rfl rfl (B rfl) (Yv.eql rfl (Eg rfl rfl id) (E rfl rfl)) ?_
   refine Y1 (Yv.pickAnd rfl (E rfl rfl) (Eg rfl rfl id)) ?_
   refine Y1 (Yv.move rfl eV) ?_
   refine AWL.ygT rfl rfl rfl rfl (B rfl) (Yv.move rfl (E rfl rfl)) ?_
   refine AWL.ygT rfl rfl rfl rfl (B rfl) (Yv.eql rfl (Eg rfl rfl id) (E rfl rfl)) ?_
   refine Y1 (Yv.pickAnd rfl (E rfl rfl) (Eg rfl rfl id)) ?_
   refine Y1 (Yv.assign rfl eV) ?_
   refine nl ?_
   refine AW.cond rfl (fun h7t => ?_) (fun h7f => ?_)
   ·
    try replace h7t := of_decide_eq_true h7t
    refine AW.region ?_
    refine Y1 (Yv.assign rfl eV) ?_
    refine nl ?_
    exact ⟨(), (ne_true_of_eq_false h3f), (Sub.cons rfl rfl (Sub.cons rfl rfl (Sub.cons rfl rfl (Sub.cons rfl rfl (Sub.cons rfl rfl (Sub.cons rfl (by rw [realK, if_neg (ne_true_of_eq_false h2f), if_neg (ne_true_of_eq_false h4f), if_neg (ne_true_of_eq_false h5f), if_neg (ne_true_of_eq_false h6f), if_pos h7t] <;> rfl) Sub.nil)))))), rfl⟩
   try replace h7f := of_decide_eq_false h7f
   refine AW.rseq ?_
   refine Y1 (Yv.move rfl eV) ?_
   refine Y1 (Yv.eql rfl eV eV) ?_
   refine Y1 (Yv.move rfl eV) ?_
   refine AWL.ygT rfl rfl rfl rfl (B rfl) (Yv.fieldBox rfl fo_87_0 (E rfl rfl)) ?_
   refine AWL.ygT rfl rfl rfl rfl (B rfl) (Yv.loadBox rfl ag_3 (i := 2) rfl (Eg rfl rfl id) rfl) ?_
   refine AWL.ygT rfl rfl rfl rfl (B rfl) (Yv.eql rfl (Eg rfl rfl id) (E rfl rfl)) ?_
   refine Y1 (Yv.pickAnd rfl (E rfl rfl) (Eg rfl rfl id)) ?_
   refine Y1 (Yv.move rfl eV) ?_
   refine AWL.ygT rfl rfl rfl rfl (B rfl) (Yv.move rfl (E rfl rfl)) ?_
   refine AWL.ygT rfl rfl rfl rfl (B rfl) (Yv.eql rfl (Eg rfl rfl id) (E rfl rfl)) ?_
   refine Y1 (Yv.pickAnd rfl (E rfl rfl) (Eg rfl rfl id)) ?_
   refine Y1 (Yv.assign rfl eV) ?_
   refine nl ?_
   refine AW.cond rfl (fun h8t => ?_) (fun h8f => ?_)
   ·
    try replace h8t := of_decide_eq_true h8t
    refine AW.region ?_
    refine Y1 (Yv.assign rfl eV) ?_
    refine nl ?_
    exact ⟨(), (ne_true_of_eq_false h3f), (Sub.cons rfl rfl (Sub.cons rfl rfl (Sub.cons rfl rfl (Sub.cons rfl rfl (Sub.cons rfl rfl (Sub.cons rfl (by rw [realK, if_neg (ne_true_of_eq_false h2f), if_neg (ne_true_of_eq_false h4f), if_neg (ne_true_of_eq_false h5f), if_neg (ne_true_of_eq_false h6f), if_neg (ne_true_of_eq_false h7f), if_pos h8t] <;> rfl) Sub.nil)))))), rfl⟩
   try replace h8f := of_decide_eq_false h8f
   refine AW.rseq ?_
   refine Y1 (Yv.move rfl eV) ?_
   refine Y1 (Yv.eql rfl eV eV) ?_
   refine Y1 (Yv.move rfl eV) ?_
   refine AWL.ygT rfl rfl rfl rfl (B rfl) (Yv.fieldBox rfl fo_87_0 (E rfl rfl)) ?_
   refine AWL.ygT rfl rfl rfl rfl (B rfl) (Yv.loadBox rfl ag_3 (i := 2) rfl (Eg rfl rfl id) rfl) ?_
   refine AWL.ygT rfl rfl rfl rfl (B rfl) (Yv.eql rfl (Eg rfl rfl id) (E rfl rfl)) ?_
   refine Y1 (Yv.pickAnd rfl (E rfl rfl) (Eg rfl rfl id)) ?_
   refine Y1 (Yv.move rfl eV) ?_
   refine AWL.ygT rfl rfl rfl rfl (B rfl) (Yv.move rfl (E rfl rfl)) ?_
   refine AWL.ygT rfl rfl rfl rfl (B rfl) (Yv.eql rfl (Eg rfl rfl id) (E rfl rfl)) ?_
   refine Y1 (Yv.pickAnd rfl (E rfl rfl) (Eg rfl rfl id)) ?_
   refine Y1 (Yv.assign rfl eV) ?_
   refine nl ?_
   refine AW.cond rfl (fun h9t => ?_) (fun h9f => ?_)
   ·
    try replace h9t := of_decide_eq_true h9t
    refine AW.region ?_
    refine Y1 (Yv.assign rfl eV) ?_
    refine nl ?_
    exact ⟨(), (ne_true_of_eq_false h3f), (Sub.cons rfl rfl (Sub.cons rfl rfl (Sub.cons rfl rfl (Sub.cons rfl rfl (Sub.cons rfl rfl (Sub.cons rfl (by rw [realK, if_neg (ne_true_of_eq_false h2f), if_neg (ne_true_of_eq_false h4f), if_neg (ne_true_of_eq_false h5f), if_neg (ne_true_of_eq_false h6f), if_neg (ne_true_of_eq_false h7f), if_neg (ne_true_of_eq_false h8f), if_pos h9t] <;> rfl) Sub.nil)))))), rfl⟩
   try replace h9f := of_decide_eq_false h9f
   refine AW.skip ?_
   exact ⟨(), (ne_true_of_eq_false h3f), (Sub.cons rfl rfl (Sub.cons rfl rfl (Sub.cons rfl rfl (Sub.cons rfl rfl (Sub.cons rfl rfl (Sub.cons rfl (by rw [realK, if_neg (ne_true_of_eq_false h2f), if_neg (ne_true_of_eq_false h4f), if_neg (ne_true_of_eq_false h5f), if_neg (ne_true_of_eq_false h6f), if_neg (ne_true_of_eq_false h7f), if_neg (ne_true_of_eq_false h8f), if_neg (ne_true_of_eq_false h9f)] <;> rfl) Sub.nil)))))), rfl⟩
  ·
   rintro _ hmid
   refine AW.rseq ?_
   refine Y1 (Yv.move rfl eV) ?_
   refine Y1 (Yv.move rfl eV) ?_
   refine Y1 (Yv.gtr rfl eV eV) ?_
   refine C1 rfl ce_59 (E rfl rfl) (evsC (E rfl rfl) (evsC (E rfl rfl) evs0)) (S1 := [Ent.box b 68 (rdCells bs (nextF bs (realD2 bs r)).2)]) (S2 := _) rfl (must64 b bs (nextF bs (realD2 bs r)).2 (decide (0 < (realK first (splitF (nextF bs r).1) (nextF bs (realD2 bs r)).1)))) ?_
   rintro t155 S155 rfl
   refine nl ?_
   refine AW.rseq ?_
   refine Y1 (Yv.move rfl eV) ?_
   refine Y1 (Yv.loadBoxA rfl ag_87 (i := 2) rfl (E rfl rfl) rfl rfl) ?_
   refine C1 rfl ce_78 (E rfl rfl) (evsC (E rfl rfl) (evsC (E rfl rfl) evs0)) (S1 := [Ent.box b 68 (rdCells bs (mustF (nextF bs (realD2 bs r)).2 (decide (0 < (realK first (splitF (nextF bs r).1) (nextF bs (realD2 bs r)).1)))))]) (S2 := _) rfl (two78 b bs (mustF (nextF bs (realD2 bs r)).2 (decide (0 < (realK first (splitF (nextF bs r).1) (nextF bs (realD2 bs r)).1)))) hb (must_ok hok3 _) (splitF (nextF bs r).1)) ?_
   rintro t159 S159 ⟨rfl, E159, rfl⟩
   refine AWL.tuck ?_
   refine Y1 (Yv.move rfl eV) ?_
   refine Y1 (Yv.extract rfl eV rfl) ?_
   refine Y1 (Yv.extract rfl eV rfl) ?_
   refine Y1 (Yv.assign rfl eV) ?_
   refine Y1 (Yv.assign rfl eV) ?_
   refine nl ?_
   refine AW.rseq ?_
   refine Y1 (Yv.move rfl eV) ?_
   refine Y1 (Yv.move rfl eV) ?_
   refine Y1 (Yv.move rfl eV) ?_
   refine Y1 (Yv.buildS rfl sh_23 (evpC (E rfl rfl) (evpC (E rfl rfl) (evpC (E rfl rfl) evp0))) (fun _ => rfl)) ?_
   refine AWL.storeBox (i := 1) rfl rfl rfl ag_23 rfl (E rfl rfl) (E rfl rfl) rfl rfl (Nat.le_of_ble_eq_true rfl) ?_
   refine nl ?_
   refine AW.ret (retI (.cellA (i := 1) rfl ag_23 rfl rfl rfl .nil) ?_)
   rw [realR, if_neg (ne_true_of_eq_false h0f), if_neg (ne_true_of_eq_false h1f), realIn, if_neg hmid]
   exact ⟨rfl, _, rfl⟩

set_option maxHeartbeats 4000000 in
theorem prefixed65 (b : Nat) (bs : List UInt8) (r : Rd) (hb : bs.length ≤ 1099511627776) (hr : RdOk bs r) (x : Rx) :
    ACalls Tryd.prog 60 [.v (.pointer (some ⟨b, 0, none⟩)), rxT x] [Ent.box b 68 (rdCells bs r)] (fun t_ S => t_ = insT (prefR bs x r).1 ∧ ∃ E, S = Ent.box b 68 (rdCells bs (prefR bs x r).2) :: E) := by
  obtain ⟨hx0, hx1⟩ := next_range bs r
  have hok1 := next_ok hr
  have hokm : RdOk bs (mustF (nextF bs r).2 (decide (x.reg = 0))) := must_ok hok1 _
  have hoko : RdOk bs (mustF (oneD bs x (nextF bs r).2) (decide ((oneV bs x (nextF bs r).2).1 = 0))) := must_ok (one_ok hok1 x) _
  refine ACalls.intro Tryd.func60 rfl Tryd.ntmps60 (Nat.le_of_ble_eq_true rfl) rfl fun X w0 => ?_
  refine AW.rseq ?_
  refine AWL.boxOp rfl rfl (B rfl) rfl (E rfl rfl) rfl (fun b3 => ?_)
  refine AWL.allocOp rfl rfl (B rfl) rfl zc_23 (fun b4 => ?_)
  refine nl ?_
  refine AW.rseq ?_
  refine Y1 (Yv.move rfl eV) ?_
  refine C1 rfl ce_58 (E rfl rfl) (evsC (E rfl rfl) evs0) (S1 := [Ent.box b 68 (rdCells bs r)]) (S2 := _) rfl (next63 b bs r hb hr) ?_
  rintro t22 S22 ⟨rfl, rfl⟩
  refine Y1 (Yv.assign rfl eV) ?_
  refine nl ?_
  refine AW.seq ?_
  refine AW.rseq ?_
  refine Y1 (Yv.move rfl eV) ?_
  refine Y1 (Yv.nilChk rfl eV) ?_
  refine Y1 (Yv.fieldBox rfl fo_68_2 eV) ?_
  refine Y1 (Yv.loadBox rfl ag_4 (i := 0) rfl (E rfl rfl) rfl) ?_
  refine Y1 (Yv.move rfl eV) ?_
  refine AWL.ygF rfl rfl rfl rfl (B rfl) (Yv.move rfl (E rfl rfl)) ?_
  refine AWL.ygF rfl rfl rfl rfl (B rfl) (Yv.nilChk rfl (Eg rfl rfl id)) ?_
  refine AWL.ygF rfl rfl rfl rfl (B rfl) (Yv.fieldBox rfl fo_68_3 (Eg rfl rfl id)) ?_
  refine AWL.ygF rfl rfl rfl rfl (B rfl) (Yv.loadBox rfl ag_4 (i := 0) rfl (Eg rfl rfl id) rfl) ?_
  refine Y1 (Yv.pickOr (t := .const (.bool true)) rfl (E rfl rfl) (Eg rfl rfl id)) ?_
  refine nl ?_
  refine AW.cond rfl (fun h0t => ?_) (fun h0f => ?_)
  ·
   try replace h0t := of_decide_eq_true h0t
   refine AW.rseq ?_
   refine Y1 (Yv.buildS rfl sh_23 evp0 (fun _ => rfl)) ?_
   refine AWL.storeBox (i := 2) rfl rfl rfl ag_23 rfl (E rfl rfl) (E rfl rfl) rfl rfl (Nat.le_of_ble_eq_true rfl) ?_
   refine nl ?_
   refine AW.ret (retI (.cellA (i := 2) rfl ag_23 rfl rfl rfl .nil) ?_)
   rw [prefR, if_pos h0t]
   exact ⟨rfl, _, rfl⟩
  try replace h0f := of_decide_eq_false h0f
  refine AW.skip ?_
  refine AW.seq ?_
  refine AW.rseq ?_
  refine Y1 (Yv.move rfl eV) ?_
  refine Y1 (Yv.eql rfl eV eV) ?_
  refine nl ?_
  refine AW.cond rfl (fun h1t => ?_) (fun h1f => ?_)
  ·
   try replace h1t := of_decide_eq_true h1t
   refine AW.rseq ?_
   refine Y1 (Yv.move rfl eV) ?_
   refine Y1 (Yv.loadBoxA rfl ag_87 (i := 1) rfl (E rfl rfl) rfl rfl) ?_
   refine C1 rfl ce_72 (E rfl rfl) (evsC (E rfl rfl) (evsC (E rfl rfl) evs0)) (S1 := [Ent.box b 68 (rdCells bs (nextF bs r).2)]) (S2 := _) rfl (far72 b bs (nextF bs r).2 hb hok1 x) ?_
   rintro t38 S38 ⟨rfl, E38, rfl⟩
   refine AWL.tuck ?_
   refine AWL.storeBox (i := 2) rfl rfl rfl ag_23 rfl (E rfl rfl) (E rfl rfl) rfl rfl (Nat.le_of_ble_eq_true rfl) ?_
   refine nl ?_
   refine AW.ret (retI (.cellA (i := 2) rfl ag_23 rfl rfl rfl .nil) ?_)
   rw [prefR, if_neg (ne_true_of_eq_false h0f), prefIn, if_pos h1t]
   exact ⟨rfl, _, rfl⟩
  try replace h1f := of_decide_eq_false h1f
  refine AW.skip ?_
  refine AW.seq ?_
  refine AW.rseq ?_
  refine Y1 (Yv.fieldBox rfl fo_87_0 eV) ?_
  refine Y1 (Yv.loadBox rfl ag_3 (i := 1) rfl (E rfl rfl) rfl) ?_
  refine Y1 (Yv.eql rfl eV eV) ?_
  refine nl ?_
  refine AW.cond rfl (fun h2t => ?_) (fun h2f => ?_)
  ·
   try replace h2t := of_decide_eq_true h2t
   refine AW.rseq ?_
   refine Y1 (Yv.move rfl eV) ?_
   refine Y1 (Yv.loadBoxA rfl ag_87 (i := 1) rfl (E rfl rfl) rfl rfl) ?_
   refine Y1 (Yv.move rfl eV) ?_
   refine C1 rfl ce_73 (E rfl rfl) (evsC (E rfl rfl) (evsC (E rfl rfl) (evsC (E rfl rfl) evs0))) (S1 := [Ent.box b 68 (rdCells bs (nextF bs r).2)]) (S2 := _) rfl (narrow73 b bs (nextF bs r).2 hb hok1 x (nextF bs r).1 hx0 hx1) ?_
   rintro t45 S45 ⟨rfl, E45, rfl⟩
   refine AWL.tuck ?_
   refine AWL.storeBox (i := 2) rfl rfl rfl ag_23 rfl (E rfl rfl) (E rfl rfl) rfl rfl (Nat.le_of_ble_eq_true rfl) ?_
   refine nl ?_
   refine AW.ret (retI (.cellA (i := 2) rfl ag_23 rfl rfl rfl .nil) ?_)
   rw [prefR, if_neg (ne_true_of_eq_false h0f), prefIn, if_neg h1f, if_pos h2t]
   exact ⟨rfl, _, rfl⟩
  try replace h2f := of_decide_eq_false h2f
  refine AW.skip ?_
  refine AW.seq ?_
  refine AW.rseq ?_
  refine Y1 (Yv.move rfl eV) ?_
  refine Y1 (Yv.bits rfl rfl (E rfl rfl) (E rfl rfl)) ?_
  refine Y1 (Yv.eql rfl eV eV) ?_
  refine nl ?_
  refine AW.cond rfl (fun h3t => ?_) (fun h3f => ?_)
  ·
   try replace h3t := of_decide_eq_true h3t
   refine AW.rseq ?_
   refine Y1 (Yv.move rfl eV) ?_
   refine Y1 (Yv.fieldBox rfl fo_87_1 eV) ?_
   refine Y1 (Yv.loadBox rfl ag_3 (i := 1) rfl (E rfl rfl) rfl) ?_
   refine Y1 (Yv.eql rfl eV eV) ?_
   refine C1 rfl ce_59 (E rfl rfl) (evsC (E rfl rfl) (evsC (E rfl rfl) evs0)) (S1 := [Ent.box b 68 (rdCells bs (nextF bs r).2)]) (S2 := _) rfl (must64 b bs (nextF bs r).2 (decide (x.reg = 0))) ?_
   rintro t53 S53 rfl
   refine nl ?_
   refine AW.mid (α := Nat) (fun b6 => [(0, true, .v (.pointer (some ⟨b, 0, none⟩))), (3, true, .v (.pointer (some ⟨b3, 0, none⟩))), (4, true, .v (.pointer (some ⟨b4, 0, none⟩))), (6, true, .v (.pointer (some ⟨b6, 0, none⟩)))]) (fun b6 => [Ent.box b 68 (rdCells bs (immD bs (mustF (nextF bs r).2 (decide (x.reg = 0))) 8)), .box b3 87 (rxCells x), .box b4 23 (insCells nilI), .box b6 23 (insCells ⟨2, orI x.rm ((nextF bs r).1 % 8), 0, 0, 0, (immV bs (mustF (nextF bs r).2 (decide (x.reg = 0))) 8)⟩)]) (fun _ => True) ?_ ?_
   ·
    refine AW.regionH (HeldBox b3 (rxVals x)) rfl (tells_box (k := 1) rfl) ?_
    refine AWH.tk (i := 0) rfl rfl rfl (B rfl) (heldAll (freeField rfl fo_87_2 (E rfl rfl))) ?_
    refine AWH.tk (i := 1) rfl rfl rfl (B rfl) (heldLoad rfl ag_3 (E rfl rfl) rfl) ?_
    refine AWH.tk (i := 2) rfl rfl rfl (B rfl) (heldAll (freeMove rfl (E rfl rfl))) ?_
    refine AWH.tk (i := 3) rfl rfl rfl (B rfl) (heldAll (freeAndN_i64 3 8 (by decide) (by decide) (by decide) rfl (E rfl rfl) (E rfl rfl) ⟨by omega, by omega⟩)) ?_
    refine AWH.tk (i := 4) rfl rfl rfl (B rfl) (heldAll (freeBits rfl rfl (E rfl rfl) (E rfl rfl))) ?_
    refine AWH.tk (i := 5) rfl rfl rfl (B rfl) (heldAll (freeMove rfl (E rfl rfl))) ?_
    refine AWH.two (i := 6) (j := 8) (by kernel_rfl) rfl rfl ?_ ?_
    ·
     refine C1 rfl ce_63 (E rfl rfl) (evsC (E rfl rfl) (evsC (E rfl rfl) evs0)) (S1 := [Ent.box b 68 (rdCells bs (mustF (nextF bs r).2 (decide (x.reg = 0))))]) (S2 := _) rfl (imm68 b bs (mustF (nextF bs r).2 (decide (x.reg = 0))) hb hokm 8 (.inr (.inr rfl))) ?_
     rintro t60 S60 ⟨rfl, rfl⟩
     refine tb 1 rfl ?_
     refine AWH.two (i := 7) (j := 8) (by kernel_rfl) rfl rfl ?_ ?_
     ·
      refine Y1 (Yv.buildS rfl sh_23 (evpC (E rfl rfl) (evpC (E rfl rfl) (evpC (E rfl rfl) evp0))) (fun _ => rfl)) ?_
      refine tb 1 rfl ?_
      refine AWH.one (i := 8) (by kernel_rfl) rfl ?_
      refine AWL.allocOp rfl rfl (B rfl) rfl zc_23 (fun b6 => ?_)
      refine tb 1 rfl ?_
      refine AWH.one (i := 9) (by kernel_rfl) rfl ?_
      refine AWL.storeBox (i := 3) rfl rfl rfl ag_23 rfl (E rfl rfl) (E rfl rfl) rfl rfl (Nat.le_of_ble_eq_true rfl) ?_
      refine tb 1 rfl ?_
      refine AWH.done (by kernel_rfl) ?_
      exact ⟨b6, trivial, (Sub.cons rfl rfl (Sub.cons rfl rfl (Sub.cons rfl rfl (Sub.cons rfl rfl Sub.nil)))), rfl⟩
     ·
      refine AWL.allocOp rfl rfl (B rfl) rfl zc_23 (fun b6 => ?_)
      refine tb 1 rfl ?_
      refine AWH.one (i := 7) (by kernel_rfl) rfl ?_
      refine Y1 (Yv.buildS rfl sh_23 (evpC (E rfl rfl) (evpC (E rfl rfl) (evpC (E rfl rfl) evp0))) (fun _ => rfl)) ?_
      refine tb 1 rfl ?_
      refine AWH.one (i := 9) (by kernel_rfl) rfl ?_
      refine AWL.storeBox (i := 3) rfl rfl rfl ag_23 rfl (E rfl rfl) (E rfl rfl) rfl rfl (Nat.le_of_ble_eq_true rfl) ?_
      refine tb 1 rfl ?_
      refine AWH.done (by kernel_rfl) ?_
      exact ⟨b6, trivial, (Sub.cons rfl rfl (Sub.cons rfl rfl (Sub.cons rfl rfl (Sub.cons rfl rfl Sub.nil)))), rfl⟩
    ·
     refine AWL.allocOp rfl rfl (B rfl) rfl zc_23 (fun b6 => ?_)
     refine tb 1 rfl ?_
     refine AWH.one (i := 6) (by kernel_rfl) rfl ?_
     refine C1 rfl ce_63 (E rfl rfl) (evsC (E rfl rfl) (evsC (E rfl rfl) evs0)) (S1 := [Ent.box b 68 (rdCells bs (mustF (nextF bs r).2 (decide (x.reg = 0))))]) (S2 := _) rfl (imm68 b bs (mustF (nextF bs r).2 (decide (x.reg = 0))) hb hokm 8 (.inr (.inr rfl))) ?_
     rintro t60 S60 ⟨rfl, rfl⟩
     refine tb 1 rfl ?_
     refine AWH.one (i := 7) (by kernel_rfl) rfl ?_
     refine Y1 (Yv.buildS rfl sh_23 (evpC (E rfl rfl) (evpC (E rfl rfl) (evpC (E rfl rfl) evp0))) (fun _ => rfl)) ?_
     refine tb 1 rfl ?_
     refine AWH.one (i := 9) (by kernel_rfl) rfl ?_
     refine AWL.storeBox (i := 3) rfl rfl rfl ag_23 rfl (E rfl rfl) (E rfl rfl) rfl rfl (Nat.le_of_ble_eq_true rfl) ?_
     refine tb 1 rfl ?_
     refine AWH.done (by kernel_rfl) ?_
     exact ⟨b6, trivial, (Sub.cons rfl rfl (Sub.cons rfl rfl (Sub.cons rfl rfl (Sub.cons rfl rfl Sub.nil)))), rfl⟩
   ·
    rintro b6 hmid
    refine AW.rseq ?_
    refine Y1 (Yv.move rfl eV) ?_
    refine Y1 (Yv.fieldBox rfl fo_23_5 eV) ?_
    refine Y1 (Yv.loadBox rfl ag_2 (i := 3) rfl (E rfl rfl) rfl) ?_
    refine AWL.callP rfl rfl (B rfl) rfl ce_31 (E rfl rfl) (evsC (E rfl rfl) evs0) (small38 (immV bs (mustF (nextF bs r).2 (decide (x.reg = 0))) 8)) (fun t S h => h) ?_
    refine Y1 (Yv.not rfl eV) ?_
    refine C1 rfl ce_59 (E rfl rfl) (evsC (E rfl rfl) (evsC (E rfl rfl) evs0)) (S1 := [Ent.box b 68 (rdCells bs (immD bs (mustF (nextF bs r).2 (decide (x.reg = 0))) 8))]) (S2 := _) rfl (must64 b bs (immD bs (mustF (nextF bs r).2 (decide (x.reg = 0))) 8) (!smallF (immV bs (mustF (nextF bs r).2 (decide (x.reg = 0))) 8))) ?_
    rintro t67 S67 rfl
    refine nl ?_
    refine AW.rseq ?_
    refine Y1 (Yv.loadBoxA rfl ag_23 (i := 3) rfl (E rfl rfl) rfl rfl) ?_
    refine AWL.storeBox (i := 2) rfl rfl rfl ag_23 rfl (E rfl rfl) (E rfl rfl) rfl rfl (Nat.le_of_ble_eq_true rfl) ?_
    refine nl ?_
    refine AW.ret (retI (.cellA (i := 2) rfl ag_23 rfl rfl rfl .nil) ?_)
    rw [prefR, if_neg (ne_true_of_eq_false h0f), prefIn, if_neg h1f, if_neg h2f, if_pos h3t]
    exact ⟨rfl, _, rfl⟩
  try replace h3f := of_decide_eq_false h3f
  refine AW.skip ?_
  refine AW.seq ?_
  refine AW.rseq ?_
  refine Y1 (Yv.move rfl eV) ?_
  refine nl ?_
  refine AW.block ?_
  refine AW.rseq ?_
  refine Y1 (Yv.eql rfl eV eV) ?_
  refine Y1 (Yv.assign rfl eV) ?_
  refine nl ?_
  refine AW.cond rfl (fun h4t => ?_) (fun h4f => ?_)
  ·
   try replace h4t := of_decide_eq_true h4t
   refine AW.rseq ?_
   refine Y1 (Yv.move rfl eV) ?_
   refine Y1 (Yv.loadBoxA rfl ag_87 (i := 1) rfl (E rfl rfl) rfl rfl) ?_
   refine C1 rfl ce_74 (E rfl rfl) (evsC (E rfl rfl) (evsC (E rfl rfl) evs0)) (S1 := [Ent.box b 68 (rdCells bs (nextF bs r).2)]) (S2 := _) rfl (mem74 b bs (nextF bs r).2 hb hok1 x) ?_
   rintro t75 S75 ⟨rfl, E75, rfl⟩
   refine AWL.tuck ?_
   refine Y1 (Yv.move rfl eV) ?_
   refine Y1 (Yv.extract rfl eV rfl) ?_
   refine Y1 (Yv.extract rfl eV rfl) ?_
   refine Y1 (Yv.extract rfl eV rfl) ?_
   refine Y1 (Yv.assign rfl eV) ?_
   refine Y1 (Yv.assign rfl eV) ?_
   refine Y1 (Yv.assign rfl eV) ?_
   refine nl ?_
   refine AW.rseq ?_
   refine Y1 (Yv.move rfl eV) ?_
   refine Y1 (Yv.move rfl eV) ?_
   refine Y1 (Yv.move rfl eV) ?_
   refine Y1 (Yv.buildS rfl sh_23 (evpC (E rfl rfl) (evpC (E rfl rfl) (evpC (E rfl rfl) (evpC (E rfl rfl) (evpC (E rfl rfl) evp0))))) (fun _ => rfl)) ?_
   refine AWL.storeBox (i := 2) rfl rfl rfl ag_23 rfl (E rfl rfl) (E rfl rfl) rfl rfl (Nat.le_of_ble_eq_true rfl) ?_
   refine nl ?_
   refine AW.ret (retI (.cellA (i := 2) rfl ag_23 rfl rfl rfl .nil) ?_)
   rw [prefR, if_neg (ne_true_of_eq_false h0f), prefIn, if_neg h1f, if_neg h2f, if_neg h3f, if_pos h4t]
   exact ⟨rfl, _, rfl⟩
  try replace h4f := of_decide_eq_false h4f
  refine AW.rseq ?_
  refine Y1 (Yv.eql rfl eV eV) ?_
  refine Y1 (Yv.assign rfl eV) ?_
  refine nl ?_
  refine AW.cond rfl (fun h5t => ?_) (fun h5f => ?_)
  ·
   try replace h5t := of_decide_eq_true h5t
   refine AW.rseq ?_
   refine Y1 (Yv.move rfl eV) ?_
   refine Y1 (Yv.loadBoxA rfl ag_87 (i := 1) rfl (E rfl rfl) rfl rfl) ?_
   refine C1 rfl ce_74 (E rfl rfl) (evsC (E rfl rfl) (evsC (E rfl rfl) evs0)) (S1 := [Ent.box b 68 (rdCells bs (nextF bs r).2)]) (S2 := _) rfl (mem74 b bs (nextF bs r).2 hb hok1 x) ?_
   rintro t88 S88 ⟨rfl, E88, rfl⟩
   refine AWL.tuck ?_
   refine Y1 (Yv.move rfl eV) ?_
   refine Y1 (Yv.extract rfl eV rfl) ?_
   refine Y1 (Yv.extract rfl eV rfl) ?_
   refine Y1 (Yv.extract rfl eV rfl) ?_
   refine Y1 (Yv.assign rfl eV) ?_
   refine Y1 (Yv.assign rfl eV) ?_
   refine Y1 (Yv.assign rfl eV) ?_
   refine nl ?_
   refine AW.rseq ?_
   refine Y1 (Yv.move rfl eV) ?_
   refine Y1 (Yv.move rfl eV) ?_
   refine Y1 (Yv.move rfl eV) ?_
   refine Y1 (Yv.buildS rfl sh_23 (evpC (E rfl rfl) (evpC (E rfl rfl) (evpC (E rfl rfl) (evpC (E rfl rfl) evp0)))) (fun _ => rfl)) ?_
   refine AWL.storeBox (i := 2) rfl rfl rfl ag_23 rfl (E rfl rfl) (E rfl rfl) rfl rfl (Nat.le_of_ble_eq_true rfl) ?_
   refine nl ?_
   refine AW.ret (retI (.cellA (i := 2) rfl ag_23 rfl rfl rfl .nil) ?_)
   rw [prefR, if_neg (ne_true_of_eq_false h0f), prefIn, if_neg h1f, if_neg h2f, if_neg h3f, if_neg h4f, if_pos h5t]
   exact ⟨rfl, _, rfl⟩
  try replace h5f := of_decide_eq_false h5f
  refine AW.rseq ?_
  refine Y1 (Yv.eql rfl eV eV) ?_
  refine Y1 (Yv.assign rfl eV) ?_
  refine nl ?_
  refine AW.cond rfl (fun h6t => ?_) (fun h6f => ?_)
  ·
   try replace h6t := of_decide_eq_true h6t
   refine AW.rseq ?_
   refine Y1 (Yv.move rfl eV) ?_
   refine Y1 (Yv.loadBoxA rfl ag_87 (i := 1) rfl (E rfl rfl) rfl rfl) ?_
   refine C1 rfl ce_75 (E rfl rfl) (evsC (E rfl rfl) (evsC (E rfl rfl) evs0)) (S1 := [Ent.box b 68 (rdCells bs (nextF bs r).2)]) (S2 := _) rfl (moved75 b bs (nextF bs r).2 hb hok1 x) ?_
   rintro t100 S100 ⟨rfl, E100, rfl⟩
   refine AWL.tuck ?_
   refine AWL.storeBox (i := 2) rfl rfl rfl ag_23 rfl (E rfl rfl) (E rfl rfl) rfl rfl (Nat.le_of_ble_eq_true rfl) ?_
   refine nl ?_
   refine AW.ret (retI (.cellA (i := 2) rfl ag_23 rfl rfl rfl .nil) ?_)
   rw [prefR, if_neg (ne_true_of_eq_false h0f), prefIn, if_neg h1f, if_neg h2f, if_neg h3f, if_neg h4f, if_neg h5f, if_pos h6t]
   exact ⟨rfl, _, rfl⟩
  try replace h6f := of_decide_eq_false h6f
  refine AW.rseq ?_
  refine Y1 (Yv.eql rfl eV eV) ?_
  refine Y1 (Yv.assign rfl eV) ?_
  refine nl ?_
  refine AW.cond rfl (fun h7t => ?_) (fun h7f => ?_)
  ·
   try replace h7t := of_decide_eq_true h7t
   refine AW.rseq ?_
   refine Y1 (Yv.move rfl eV) ?_
   refine Y1 (Yv.loadBoxA rfl ag_87 (i := 1) rfl (E rfl rfl) rfl rfl) ?_
   refine C1 rfl ce_76 (E rfl rfl) (evsC (E rfl rfl) (evsC (E rfl rfl) evs0)) (S1 := [Ent.box b 68 (rdCells bs (nextF bs r).2)]) (S2 := _) rfl (one76 b bs (nextF bs r).2 hb hok1 x) ?_
   rintro t106 S106 ⟨rfl, E106, rfl⟩
   refine AWL.tuck ?_
   refine Y1 (Yv.move rfl eV) ?_
   refine Y1 (Yv.extract rfl eV rfl) ?_
   refine Y1 (Yv.extract rfl eV rfl) ?_
   refine Y1 (Yv.assign rfl eV) ?_
   refine Y1 (Yv.assign rfl eV) ?_
   refine nl ?_
   refine AW.rseq ?_
   refine Y1 (Yv.move rfl eV) ?_
   refine Y1 (Yv.move rfl eV) ?_
   refine Y1 (Yv.eql rfl eV eV) ?_
   refine C1 rfl ce_59 (E rfl rfl) (evsC (E rfl rfl) (evsC (E rfl rfl) evs0)) (S1 := [Ent.box b 68 (rdCells bs (oneD bs x (nextF bs r).2))]) (S2 := _) rfl (must64 b bs (oneD bs x (nextF bs r).2) (decide ((oneV bs x (nextF bs r).2).1 = 0))) ?_
   rintro t112 S112 rfl
   refine nl ?_
   refine AW.rseq ?_
   refine Y1 (Yv.move rfl eV) ?_
   refine Y1 (Yv.move rfl eV) ?_
   refine C1 rfl ce_63 (E rfl rfl) (evsC (E rfl rfl) (evsC (E rfl rfl) evs0)) (S1 := [Ent.box b 68 (rdCells bs (mustF (oneD bs x (nextF bs r).2) (decide ((oneV bs x (nextF bs r).2).1 = 0))))]) (S2 := _) rfl (imm68 b bs (mustF (oneD bs x (nextF bs r).2) (decide ((oneV bs x (nextF bs r).2).1 = 0))) hb hoko 4 (.inr (.inl rfl))) ?_
   rintro t115 S115 ⟨rfl, rfl⟩
   refine Y1 (Yv.buildS rfl sh_23 (evpC (E rfl rfl) (evpC (E rfl rfl) (evpC (E rfl rfl) evp0))) (fun _ => rfl)) ?_
   refine AWL.storeBox (i := 2) rfl rfl rfl ag_23 rfl (E rfl rfl) (E rfl rfl) rfl rfl (Nat.le_of_ble_eq_true rfl) ?_
   refine nl ?_
   refine AW.ret (retI (.cellA (i := 2) rfl ag_23 rfl rfl rfl .nil) ?_)
   rw [prefR, if_neg (ne_true_of_eq_false h0f), prefIn, if_neg h1f, if_neg h2f, if_neg h3f, if_neg h4f, if_neg h5f, if_neg h6f, if_pos h7t]
   exact ⟨rfl, _, rfl⟩
  try replace h7f := of_decide_eq_false h7f
  refine AW.mid (α := Unit) (fun _ => [(0, true, .v (.pointer (some ⟨b, 0, none⟩))), (3, true, .v (.pointer (some ⟨b3, 0, none⟩))), (4, true, .v (.pointer (some ⟨b4, 0, none⟩))), (5, true, .v (.int .i64 (nextF bs r).1)), (117, true, .v (.bool (decide ((nextF bs r).1 = 129) || (decide ((nextF bs r).1 = 247) || (decide ((nextF bs r).1 = 211) || decide ((nextF bs r).1 = 193))))))]) (fun _ => [Ent.box b 68 (rdCells bs (nextF bs r).2), .box b3 87 (rxCells x), .box b4 23 (insCells nilI)]) (fun _ => True) ?_ ?_
  ·
   refine AW.rseq ?_
   refine Y1 (Yv.eql rfl eV eV) ?_
   refine Y1 (Yv.assign rfl eV) ?_
   refine nl ?_
   refine AW.cond rfl (fun h8t => ?_) (fun h8f => ?_)
   ·
    try replace h8t := of_decide_eq_true h8t
    refine AW.skip ?_
    exact ⟨(), trivial, (Sub.cons rfl rfl (Sub.cons rfl rfl (Sub.cons rfl rfl (Sub.cons rfl rfl (Sub.cons rfl (by simp [h8t]) Sub.nil))))), rfl⟩
   try replace h8f := of_decide_eq_false h8f
   refine AW.rseq ?_
   refine Y1 (Yv.eql rfl eV eV) ?_
   refine Y1 (Yv.assign rfl eV) ?_
   refine nl ?_
   refine AW.cond rfl (fun h9t => ?_) (fun h9f => ?_)
   ·
    try replace h9t := of_decide_eq_true h9t
    refine AW.skip ?_
    exact ⟨(), trivial, (Sub.cons rfl rfl (Sub.cons rfl rfl (Sub.cons rfl rfl (Sub.cons rfl rfl (Sub.cons rfl (by simp [h8f, h9t]) Sub.nil))))), rfl⟩
   try replace h9f := of_decide_eq_false h9f
   refine AW.rseq ?_
   refine Y1 (Yv.eql rfl eV eV) ?_
   refine Y1 (Yv.assign rfl eV) ?_
   refine nl ?_
   refine AW.cond rfl (fun h10t => ?_) (fun h10f => ?_)
   ·
    try replace h10t := of_decide_eq_true h10t
    refine AW.skip ?_
    exact ⟨(), trivial, (Sub.cons rfl rfl (Sub.cons rfl rfl (Sub.cons rfl rfl (Sub.cons rfl rfl (Sub.cons rfl (by simp [h8f, h9f, h10t]) Sub.nil))))), rfl⟩
   try replace h10f := of_decide_eq_false h10f
   refine AW.region ?_
   refine Y1 (Yv.eql rfl eV eV) ?_
   refine Y1 (Yv.assign rfl eV) ?_
   refine nl ?_
   exact ⟨(), trivial, (Sub.cons rfl rfl (Sub.cons rfl rfl (Sub.cons rfl rfl (Sub.cons rfl rfl (Sub.cons rfl (by simp [h8f, h9f, h10f]) Sub.nil))))), rfl⟩
  ·
   rintro _ hmid
   refine AW.cond rfl (fun h11t => ?_) (fun h11f => ?_)
   ·
    try replace h11t := of_decide_eq_true h11t
    have h11 := h11t
    simp only [Bool.or_eq_true, decide_eq_true_eq] at h11
    refine AW.rseq ?_
    refine Y1 (Yv.move rfl eV) ?_
    refine Y1 (Yv.loadBoxA rfl ag_87 (i := 1) rfl (E rfl rfl) rfl rfl) ?_
    refine Y1 (Yv.move rfl eV) ?_
    refine C1 rfl ce_77 (E rfl rfl) (evsC (E rfl rfl) (evsC (E rfl rfl) (evsC (E rfl rfl) evs0))) (S1 := [Ent.box b 68 (rdCells bs (nextF bs r).2)]) (S2 := _) rfl (numbered77 b bs (nextF bs r).2 hb hok1 x (nextF bs r).1) ?_
    rintro t125 S125 ⟨rfl, E125, rfl⟩
    refine AWL.tuck ?_
    refine AWL.storeBox (i := 2) rfl rfl rfl ag_23 rfl (E rfl rfl) (E rfl rfl) rfl rfl (Nat.le_of_ble_eq_true rfl) ?_
    refine nl ?_
    refine AW.ret (retI (.cellA (i := 2) rfl ag_23 rfl rfl rfl .nil) ?_)
    rw [prefR, if_neg (ne_true_of_eq_false h0f), prefIn, if_neg h1f, if_neg h2f, if_neg h3f, if_neg h4f, if_neg h5f, if_neg h6f, if_neg h7f, if_pos h11]
    exact ⟨rfl, _, rfl⟩
   try replace h11f := of_decide_eq_false h11f
   have h11 := h11f
   simp only [Bool.or_eq_false_iff, decide_eq_false_iff_not] at h11
   have h11n : ¬ ((nextF bs r).1 = 129 ∨ (nextF bs r).1 = 247 ∨ (nextF bs r).1 = 211 ∨ (nextF bs r).1 = 193) := by omega
   refine AW.skip ?_
   refine AW.seq ?_
   refine AW.rseq ?_
   refine AWL.buildSlice1 rfl rfl (B rfl) rfl el_43 rfl (evsC (E rfl rfl) (evsC (E rfl rfl) (evsC (E rfl rfl) (evsC (E rfl rfl) (evsC (E rfl rfl) (evsC (E rfl rfl) (evsC (E rfl rfl) (evsC (E rfl rfl) (evsC (E rfl rfl) evs0))))))))) (Nat.le_of_ble_eq_true rfl) rfl rfl ?_
   refine Y1 (Yv.lenSl rfl so_43 (B rfl) (E rfl rfl) (show _ = 9 * 1 from rfl)) ?_
   refine Y1 (Yv.move rfl eV) ?_
   refine nl ?_
   refine AW.block ?_
   refine AW.loop (fun (j : Nat) => [(0, true, .v (.pointer (some ⟨b, 0, none⟩))), (3, true, .v (.pointer (some ⟨b3, 0, none⟩))), (4, true, .v (.pointer (some ⟨b4, 0, none⟩))), (5, true, .v (.int .i64 (nextF bs r).1)), (126, true, .sl 1 (ints kindsP)), (127, true, .v (.int .i64 9)), (128, true, .v (.int .i64 (j : Int)))]) (fun (j : Nat) => [Ent.box b 68 (rdCells bs (nextF bs r).2), .box b3 87 (rxCells x), .box b4 23 (insCells nilI)]) (fun (j : Nat) => j ≤ 9 ∧ ∀ i, i < j → ¬ (opF (kindsP.getD i 0)).1 = (nextF bs r).1) (fun (j : Nat) => 9 - j) 0 ?_ ?_ ?_ ?_
   · exact ⟨Nat.zero_le _, fun i hi => by omega⟩
   · exact (Sub.cons rfl rfl (Sub.cons rfl rfl (Sub.cons rfl rfl (Sub.cons rfl rfl (Sub.cons rfl rfl (Sub.cons rfl rfl (Sub.cons rfl rfl Sub.nil)))))))
   · rfl
   ·
    intro j hinv
    obtain ⟨hj, hpre⟩ := hinv
    refine AW.rseq ?_
    refine Y1 (Yv.lss rfl eV eV) ?_
    refine nl ?_
    refine AW.seq ?_
    refine AW.cond rfl (fun h12t => ?_) (fun h12f => ?_)
    ·
     try replace h12t := of_decide_eq_true h12t
     refine AW.skip ?_
     refine AW.seq ?_
     refine AW.block ?_
     refine AW.rseq ?_
     refine Y1 (Yv.indexSl (j := j) rfl ss_43 (B rfl) (E rfl rfl) (E rfl rfl) (fun hg => ⟨rfl, by show j * 1 < 9; omega⟩)) ?_
     refine Y1 (Yv.loadRp rfl ag_3 (E rfl rfl) (fun hg => ints_get (by show j < 9; omega))) ?_
     refine Y1 (Yv.assign rfl eV) ?_
     refine nl ?_
     refine AW.rseq ?_
     refine Y1 (Yv.move rfl eV) ?_
     refine AWL.callT rfl rfl (B rfl) rfl ce_26 (E rfl rfl) (evsC (E rfl rfl) evs0) (opcode33 (kindsP.getD j 0)) ?_
     rintro t134 S134 rfl
     refine Y1 (Yv.move rfl eV) ?_
     refine Y1 (Yv.extract rfl eV rfl) ?_
     refine Y1 (Yv.extract rfl eV rfl) ?_
     refine Y1 (Yv.assign rfl eV) ?_
     refine Y1 (Yv.assign rfl eV) ?_
     refine nl ?_
     refine AW.rseq ?_
     refine Y1 (Yv.move rfl eV) ?_
     refine Y1 (Yv.move rfl eV) ?_
     refine Y1 (Yv.eql rfl eV eV) ?_
     refine nl ?_
     refine AW.cond rfl (fun h13t => ?_) (fun h13f => ?_)
     ·
      try replace h13t := of_decide_eq_true h13t
      refine AW.rseq ?_
      refine Y1 (Yv.move rfl eV) ?_
      refine Y1 (Yv.loadBoxA rfl ag_87 (i := 1) rfl (E rfl rfl) rfl rfl) ?_
      refine C1 rfl ce_78 (E rfl rfl) (evsC (E rfl rfl) (evsC (E rfl rfl) evs0)) (S1 := [Ent.box b 68 (rdCells bs (nextF bs r).2)]) (S2 := _) rfl (two78 b bs (nextF bs r).2 hb hok1 x) ?_
      rintro t143 S143 ⟨rfl, E143, rfl⟩
      refine AWL.tuck ?_
      refine Y1 (Yv.move rfl eV) ?_
      refine Y1 (Yv.extract rfl eV rfl) ?_
      refine Y1 (Yv.extract rfl eV rfl) ?_
      refine Y1 (Yv.assign rfl eV) ?_
      refine Y1 (Yv.assign rfl eV) ?_
      refine nl ?_
      refine AW.rseq ?_
      refine Y1 (Yv.move rfl eV) ?_
      refine Y1 (Yv.move rfl eV) ?_
      refine Y1 (Yv.move rfl eV) ?_
      refine Y1 (Yv.buildS rfl sh_23 (evpC (E rfl rfl) (evpC (E rfl rfl) (evpC (E rfl rfl) evp0))) (fun _ => rfl)) ?_
      refine AWL.storeBox (i := 2) rfl rfl rfl ag_23 rfl (E rfl rfl) (E rfl rfl) rfl rfl (Nat.le_of_ble_eq_true rfl) ?_
      refine nl ?_
      refine AW.ret (retI (.cellA (i := 2) rfl ag_23 rfl rfl rfl .nil) ?_)
      rw [prefR, if_neg (ne_true_of_eq_false h0f), prefIn, if_neg h1f, if_neg h2f, if_neg h3f, if_neg h4f, if_neg h5f, if_neg h6f, if_neg h7f, if_neg h11n, kindP_at (show j < 9 by omega) hpre h13t]
      exact ⟨rfl, _, rfl⟩
     try replace h13f := of_decide_eq_false h13f
     refine AW.skip ?_
     refine AW.region ?_
     refine Y1 (Yv.addN_i64 rfl (E rfl rfl) (E rfl rfl) (fun hg => by omega)) ?_
     refine Y1 (Yv.move rfl eV) ?_
     refine nl ?_
     refine ⟨j + 1, ⟨by omega, fun i hi => ?_⟩, by omega, Sub.cons rfl rfl (Sub.cons rfl rfl (Sub.cons rfl rfl (Sub.cons rfl rfl (Sub.cons rfl rfl (Sub.cons rfl rfl (Sub.cons rfl (by simp) Sub.nil)))))), rfl⟩
     rcases Nat.lt_or_ge i j with h | h
     · exact hpre i h
     · rw [show i = j by omega]; exact h13f
    try replace h12f := of_decide_eq_false h12f
    refine AW.exit ?_
    refine AW.rseq ?_
    refine Y1 (Yv.move rfl eV) ?_
    refine C1 rfl ce_59 (E rfl rfl) (evsC (E rfl rfl) (evsC (E rfl rfl) evs0)) (S1 := [Ent.box b 68 (rdCells bs (nextF bs r).2)]) (S2 := _) rfl (must64 b bs (nextF bs r).2 false) ?_
    rintro t152 S152 rfl
    refine nl ?_
    refine AW.rseq ?_
    refine Y1 (Yv.buildS rfl sh_23 evp0 (fun _ => rfl)) ?_
    refine AWL.storeBox (i := 2) rfl rfl rfl ag_23 rfl (E rfl rfl) (E rfl rfl) rfl rfl (Nat.le_of_ble_eq_true rfl) ?_
    refine nl ?_
    refine AW.ret (retI (.cellA (i := 2) rfl ag_23 rfl rfl rfl .nil) ?_)
    rw [prefR, if_neg (ne_true_of_eq_false h0f), prefIn, if_neg h1f, if_neg h2f, if_neg h3f, if_neg h4f, if_neg h5f, if_neg h6f, if_neg h7f, if_neg h11n, kindP_none (fun i hi => hpre i (by omega))]
    exact ⟨rfl, _, rfl⟩

set_option maxHeartbeats 4000000 in
theorem instruction54 (b : Nat) (bs : List UInt8) (r : Rd) (hb : bs.length ≤ 1099511627776) (hr : RdOk bs r) :
    ACalls Tryd.prog 44 [.v (.pointer (some ⟨b, 0, none⟩))] [Ent.box b 68 (rdCells bs r)] (fun t_ S => t_ = insT (insR bs r).1 ∧ ∃ E, S = Ent.box b 68 (rdCells bs (insR bs r).2) :: E) := by
  obtain ⟨hx0, hx1⟩ := next_range bs r
  have hok1 := next_ok hr
  obtain ⟨hy0, hy1⟩ := next_range bs (nextF bs r).2
  have hok2 := next_ok hok1
  refine ACalls.intro Tryd.func44 rfl Tryd.ntmps44 (Nat.le_of_ble_eq_true rfl) rfl fun X w0 => ?_
  refine AW.rseq ?_
  refine AWL.allocOp rfl rfl (B rfl) rfl zc_23 (fun b2 => ?_)
  refine nl ?_
  refine AW.rseq ?_
  refine Y1 (Yv.move rfl eV) ?_
  refine C1 rfl ce_58 (E rfl rfl) (evsC (E rfl rfl) evs0) (S1 := [Ent.box b 68 (rdCells bs r)]) (S2 := _) rfl (next63 b bs r hb hr) ?_
  rintro t6 S6 ⟨rfl, rfl⟩
  refine Y1 (Yv.assign rfl eV) ?_
  refine nl ?_
  refine AW.seq ?_
  refine AW.block ?_
  refine AW.rseq ?_
  refine Y1 (Yv.move rfl eV) ?_
  refine Y1 (Yv.nilChk rfl eV) ?_
  refine Y1 (Yv.fieldBox rfl fo_68_2 eV) ?_
  refine Y1 (Yv.loadBox rfl ag_4 (i := 0) rfl (E rfl rfl) rfl) ?_
  refine Y1 (Yv.assign rfl eV) ?_
  refine nl ?_
  refine AW.cond rfl (fun h0t => ?_) (fun h0f => ?_)
  ·
   try replace h0t := of_decide_eq_true h0t
   refine AW.rseq ?_
   refine Y1 (Yv.buildS rfl sh_23 evp0 (fun _ => rfl)) ?_
   refine AWL.storeBox (i := 1) rfl rfl rfl ag_23 rfl (E rfl rfl) (E rfl rfl) rfl rfl (Nat.le_of_ble_eq_true rfl) ?_
   refine nl ?_
   refine AW.ret (retI (.cellA (i := 1) rfl ag_23 rfl rfl rfl .nil) ?_)
   rw [insR, if_pos h0t]
   exact ⟨rfl, _, rfl⟩
  try replace h0f := of_decide_eq_false h0f
  refine AW.rseq ?_
  refine Y1 (Yv.move rfl eV) ?_
  refine Y1 (Yv.bits rfl rfl (E rfl rfl) (E rfl rfl)) ?_
  refine Y1 (Yv.eql rfl eV eV) ?_
  refine Y1 (Yv.assign rfl eV) ?_
  refine nl ?_
  refine AW.cond rfl (fun h1t => ?_) (fun h1f => ?_)
  ·
   try replace h1t := of_decide_eq_true h1t
   refine AW.rseq ?_
   refine Y1 (Yv.move rfl eV) ?_
   refine Y1 (Yv.move rfl eV) ?_
   refine Y1 (Yv.bits rfl rfl (E rfl rfl) (E rfl rfl)) ?_
   refine Y1 (Yv.eql rfl eV eV) ?_
   refine C1 rfl ce_59 (E rfl rfl) (evsC (E rfl rfl) (evsC (E rfl rfl) evs0)) (S1 := [Ent.box b 68 (rdCells bs (nextF bs r).2)]) (S2 := _) rfl (must64 b bs (nextF bs r).2 (decide (andI (nextF bs r).1 2 = 0))) ?_
   rintro t21 S21 rfl
   refine nl ?_
   refine AW.rseq ?_
   refine Y1 (Yv.move rfl eV) ?_
   refine Y1 (Yv.move rfl eV) ?_
   refine AWL.callT rfl rfl (B rfl) rfl ce_61 (E rfl rfl) (evsC (E rfl rfl) evs0) (split66 (nextF bs r).1 hx0 hx1) ?_
   rintro t24 S24 rfl
   refine C1 rfl ce_60 (E rfl rfl) (evsC (E rfl rfl) (evsC (E rfl rfl) evs0)) (S1 := [Ent.box b 68 (rdCells bs (mustF (nextF bs r).2 (decide (andI (nextF bs r).1 2 = 0))))]) (S2 := _) rfl (prefixed65 b bs (mustF (nextF bs r).2 (decide (andI (nextF bs r).1 2 = 0))) hb (must_ok hok1 _) (splitF (nextF bs r).1)) ?_
   rintro t25 S25 ⟨rfl, E25, rfl⟩
   refine AWL.tuck ?_
   refine AWL.storeBox (i := 1) rfl rfl rfl ag_23 rfl (E rfl rfl) (E rfl rfl) rfl rfl (Nat.le_of_ble_eq_true rfl) ?_
   refine nl ?_
   refine AW.ret (retI (.cellA (i := 1) rfl ag_23 rfl rfl rfl .nil) ?_)
   rw [insR, if_neg (ne_true_of_eq_false h0f), insIn, if_pos h1t]
   exact ⟨rfl, _, rfl⟩
  try replace h1f := of_decide_eq_false h1f
  refine AW.rseq ?_
  refine Y1 (Yv.move rfl eV) ?_
  refine Y1 (Yv.eql rfl eV eV) ?_
  refine Y1 (Yv.move rfl eV) ?_
  refine AWL.ygF rfl rfl rfl rfl (B rfl) (Yv.move rfl (E rfl rfl)) ?_
  refine AWL.ygF rfl rfl rfl rfl (B rfl) (Yv.eql rfl (Eg rfl rfl id) (E rfl rfl)) ?_
  refine Y1 (Yv.pickOr (t := .const (.bool true)) rfl (E rfl rfl) (Eg rfl rfl id)) ?_
  refine Y1 (Yv.assign rfl eV) ?_
  refine nl ?_
  refine AW.cond rfl (fun h2t => ?_) (fun h2f => ?_)
  ·
   try replace h2t := of_decide_eq_true h2t
   refine AW.rseq ?_
   refine Y1 (Yv.move rfl eV) ?_
   refine Y1 (Yv.move rfl eV) ?_
   refine C1 rfl ce_62 (E rfl rfl) (evsC (E rfl rfl) (evsC (E rfl rfl) evs0)) (S1 := [Ent.box b 68 (rdCells bs (nextF bs r).2)]) (S2 := _) rfl (real67 b bs (nextF bs r).2 hb hok1 (nextF bs r).1) ?_
   rintro t35 S35 ⟨rfl, E35, rfl⟩
   refine AWL.tuck ?_
   refine AWL.storeBox (i := 1) rfl rfl rfl ag_23 rfl (E rfl rfl) (E rfl rfl) rfl rfl (Nat.le_of_ble_eq_true rfl) ?_
   refine nl ?_
   refine AW.ret (retI (.cellA (i := 1) rfl ag_23 rfl rfl rfl .nil) ?_)
   rw [insR, if_neg (ne_true_of_eq_false h0f), insIn, if_neg h1f, if_pos h2t]
   exact ⟨rfl, _, rfl⟩
  try replace h2f := of_decide_eq_false h2f
  refine AW.rseq ?_
  refine Y1 (Yv.move rfl eV) ?_
  refine Y1 (Yv.bits rfl rfl (E rfl rfl) (E rfl rfl)) ?_
  refine Y1 (Yv.eql rfl eV eV) ?_
  refine Y1 (Yv.assign rfl eV) ?_
  refine nl ?_
  refine AW.cond rfl (fun h3t => ?_) (fun h3f => ?_)
  ·
   try replace h3t := of_decide_eq_true h3t
   refine AW.rseq ?_
   refine Y1 (Yv.move rfl eV) ?_
   refine Y1 (Yv.andN_i64 4 16 (by decide) (by decide) (by decide) rfl (E rfl rfl) (E rfl rfl) (fun hg => ⟨by omega, by omega⟩)) ?_
   refine Y1 (Yv.move rfl eV) ?_
   refine C1 rfl ce_63 (E rfl rfl) (evsC (E rfl rfl) (evsC (E rfl rfl) evs0)) (S1 := [Ent.box b 68 (rdCells bs (nextF bs r).2)]) (S2 := _) rfl (imm68 b bs (nextF bs r).2 hb hok1 1 (.inl rfl)) ?_
   rintro t43 S43 ⟨rfl, rfl⟩
   refine Y1 (Yv.buildS rfl sh_23 (evpC (E rfl rfl) (evpC (E rfl rfl) (evpC (E rfl rfl) (evpC (E rfl rfl) evp0)))) (fun _ => rfl)) ?_
   refine AWL.storeBox (i := 1) rfl rfl rfl ag_23 rfl (E rfl rfl) (E rfl rfl) rfl rfl (Nat.le_of_ble_eq_true rfl) ?_
   refine nl ?_
   refine AW.ret (retI (.cellA (i := 1) rfl ag_23 rfl rfl rfl .nil) ?_)
   rw [insR, if_neg (ne_true_of_eq_false h0f), insIn, if_neg h1f, if_neg (ne_true_of_eq_false h2f), if_pos h3t]
   exact ⟨rfl, _, rfl⟩
  try replace h3f := of_decide_eq_false h3f
  refine AW.skip ?_
  refine AW.seq ?_
  refine AW.rseq ?_
  refine Y1 (Yv.move rfl eV) ?_
  refine nl ?_
  refine AW.block ?_
  refine AW.rseq ?_
  refine Y1 (Yv.eql rfl eV eV) ?_
  refine Y1 (Yv.assign rfl eV) ?_
  refine nl ?_
  refine AW.cond rfl (fun h4t => ?_) (fun h4f => ?_)
  ·
   try replace h4t := of_decide_eq_true h4t
   refine AW.rseq ?_
   refine Y1 (Yv.move rfl eV) ?_
   refine C1 rfl ce_63 (E rfl rfl) (evsC (E rfl rfl) (evsC (E rfl rfl) evs0)) (S1 := [Ent.box b 68 (rdCells bs (nextF bs r).2)]) (S2 := _) rfl (imm68 b bs (nextF bs r).2 hb hok1 1 (.inl rfl)) ?_
   rintro t49 S49 ⟨rfl, rfl⟩
   refine Y1 (Yv.buildS rfl sh_23 (evpC (E rfl rfl) (evpC (E rfl rfl) (evpC (E rfl rfl) evp0))) (fun _ => rfl)) ?_
   refine AWL.storeBox (i := 1) rfl rfl rfl ag_23 rfl (E rfl rfl) (E rfl rfl) rfl rfl (Nat.le_of_ble_eq_true rfl) ?_
   refine nl ?_
   refine AW.ret (retI (.cellA (i := 1) rfl ag_23 rfl rfl rfl .nil) ?_)
   rw [insR, if_neg (ne_true_of_eq_false h0f), insIn, if_neg h1f, if_neg (ne_true_of_eq_false h2f), if_neg h3f, if_pos h4t]
   exact ⟨rfl, _, rfl⟩
  try replace h4f := of_decide_eq_false h4f
  refine AW.rseq ?_
  refine Y1 (Yv.eql rfl eV eV) ?_
  refine Y1 (Yv.assign rfl eV) ?_
  refine nl ?_
  refine AW.cond rfl (fun h5t => ?_) (fun h5f => ?_)
  ·
   try replace h5t := of_decide_eq_true h5t
   refine AW.rseq ?_
   refine Y1 (Yv.move rfl eV) ?_
   refine C1 rfl ce_63 (E rfl rfl) (evsC (E rfl rfl) (evsC (E rfl rfl) evs0)) (S1 := [Ent.box b 68 (rdCells bs (nextF bs r).2)]) (S2 := _) rfl (imm68 b bs (nextF bs r).2 hb hok1 4 (.inr (.inl rfl))) ?_
   rintro t54 S54 ⟨rfl, rfl⟩
   refine Y1 (Yv.buildS rfl sh_23 (evpC (E rfl rfl) (evpC (E rfl rfl) (evpC (E rfl rfl) evp0))) (fun _ => rfl)) ?_
   refine AWL.storeBox (i := 1) rfl rfl rfl ag_23 rfl (E rfl rfl) (E rfl rfl) rfl rfl (Nat.le_of_ble_eq_true rfl) ?_
   refine nl ?_
   refine AW.ret (retI (.cellA (i := 1) rfl ag_23 rfl rfl rfl .nil) ?_)
   rw [insR, if_neg (ne_true_of_eq_false h0f), insIn, if_neg h1f, if_neg (ne_true_of_eq_false h2f), if_neg h3f, if_neg h4f, if_pos h5t]
   exact ⟨rfl, _, rfl⟩
  try replace h5f := of_decide_eq_false h5f
  refine AW.rseq ?_
  refine Y1 (Yv.eql rfl eV eV) ?_
  refine Y1 (Yv.assign rfl eV) ?_
  refine nl ?_
  refine AW.cond rfl (fun h6t => ?_) (fun h6f => ?_)
  ·
   try replace h6t := of_decide_eq_true h6t
   refine AW.rseq ?_
   refine Y1 (Yv.move rfl eV) ?_
   refine C1 rfl ce_63 (E rfl rfl) (evsC (E rfl rfl) (evsC (E rfl rfl) evs0)) (S1 := [Ent.box b 68 (rdCells bs (nextF bs r).2)]) (S2 := _) rfl (imm68 b bs (nextF bs r).2 hb hok1 4 (.inr (.inl rfl))) ?_
   rintro t59 S59 ⟨rfl, rfl⟩
   refine Y1 (Yv.buildS rfl sh_23 (evpC (E rfl rfl) (evpC (E rfl rfl) evp0)) (fun _ => rfl)) ?_
   refine AWL.storeBox (i := 1) rfl rfl rfl ag_23 rfl (E rfl rfl) (E rfl rfl) rfl rfl (Nat.le_of_ble_eq_true rfl) ?_
   refine nl ?_
   refine AW.ret (retI (.cellA (i := 1) rfl ag_23 rfl rfl rfl .nil) ?_)
   rw [insR, if_neg (ne_true_of_eq_false h0f), insIn, if_neg h1f, if_neg (ne_true_of_eq_false h2f), if_neg h3f, if_neg h4f, if_neg h5f, if_pos h6t]
   exact ⟨rfl, _, rfl⟩
  try replace h6f := of_decide_eq_false h6f
  refine AW.rseq ?_
  refine Y1 (Yv.eql rfl eV eV) ?_
  refine Y1 (Yv.assign rfl eV) ?_
  refine nl ?_
  refine AW.cond rfl (fun h7t => ?_) (fun h7f => ?_)
  ·
   try replace h7t := of_decide_eq_true h7t
   refine AW.rseq ?_
   refine Y1 (Yv.buildS rfl sh_23 (evpC (E rfl rfl) evp0) (fun _ => rfl)) ?_
   refine AWL.storeBox (i := 1) rfl rfl rfl ag_23 rfl (E rfl rfl) (E rfl rfl) rfl rfl (Nat.le_of_ble_eq_true rfl) ?_
   refine nl ?_
   refine AW.ret (retI (.cellA (i := 1) rfl ag_23 rfl rfl rfl .nil) ?_)
   rw [insR, if_neg (ne_true_of_eq_false h0f), insIn, if_neg h1f, if_neg (ne_true_of_eq_false h2f), if_neg h3f, if_neg h4f, if_neg h5f, if_neg h6f, if_pos h7t]
   exact ⟨rfl, _, rfl⟩
  try replace h7f := of_decide_eq_false h7f
  refine AW.rseq ?_
  refine Y1 (Yv.eql rfl eV eV) ?_
  refine Y1 (Yv.assign rfl eV) ?_
  refine nl ?_
  refine AW.cond rfl (fun h8t => ?_) (fun h8f => ?_)
  ·
   try replace h8t := of_decide_eq_true h8t
   refine AW.rseq ?_
   refine Y1 (Yv.move rfl eV) ?_
   refine C1 rfl ce_58 (E rfl rfl) (evsC (E rfl rfl) evs0) (S1 := [Ent.box b 68 (rdCells bs (nextF bs r).2)]) (S2 := _) rfl (next63 b bs (nextF bs r).2 hb hok1) ?_
   rintro t67 S67 ⟨rfl, rfl⟩
   refine Y1 (Yv.assign rfl eV) ?_
   refine nl ?_
   refine AW.block ?_
   refine AW.rseq ?_
   refine Y1 (Yv.move rfl eV) ?_
   refine Y1 (Yv.eql rfl eV eV) ?_
   refine Y1 (Yv.assign rfl eV) ?_
   refine nl ?_
   refine AW.cond rfl (fun h9t => ?_) (fun h9f => ?_)
   ·
    try replace h9t := of_decide_eq_true h9t
    refine AW.rseq ?_
    refine Y1 (Yv.buildS rfl sh_23 (evpC (E rfl rfl) evp0) (fun _ => rfl)) ?_
    refine AWL.storeBox (i := 1) rfl rfl rfl ag_23 rfl (E rfl rfl) (E rfl rfl) rfl rfl (Nat.le_of_ble_eq_true rfl) ?_
    refine nl ?_
    refine AW.ret (retI (.cellA (i := 1) rfl ag_23 rfl rfl rfl .nil) ?_)
    rw [insR, if_neg (ne_true_of_eq_false h0f), insIn, if_neg h1f, if_neg (ne_true_of_eq_false h2f), if_neg h3f, if_neg h4f, if_neg h5f, if_neg h6f, if_neg h7f, if_pos h8t, insTwo, if_pos h9t]
    exact ⟨rfl, _, rfl⟩
   try replace h9f := of_decide_eq_false h9f
   refine AW.rseq ?_
   refine Y1 (Yv.move rfl eV) ?_
   refine Y1 (Yv.eql rfl eV eV) ?_
   refine Y1 (Yv.assign rfl eV) ?_
   refine nl ?_
   refine AW.cond rfl (fun h10t => ?_) (fun h10f => ?_)
   ·
    try replace h10t := of_decide_eq_true h10t
    refine AW.rseq ?_
    refine Y1 (Yv.buildS rfl sh_23 (evpC (E rfl rfl) evp0) (fun _ => rfl)) ?_
    refine AWL.storeBox (i := 1) rfl rfl rfl ag_23 rfl (E rfl rfl) (E rfl rfl) rfl rfl (Nat.le_of_ble_eq_true rfl) ?_
    refine nl ?_
    refine AW.ret (retI (.cellA (i := 1) rfl ag_23 rfl rfl rfl .nil) ?_)
    rw [insR, if_neg (ne_true_of_eq_false h0f), insIn, if_neg h1f, if_neg (ne_true_of_eq_false h2f), if_neg h3f, if_neg h4f, if_neg h5f, if_neg h6f, if_neg h7f, if_pos h8t, insTwo, if_neg h9f, if_pos h10t]
    exact ⟨rfl, _, rfl⟩
   try replace h10f := of_decide_eq_false h10f
   refine AW.rseq ?_
   refine Y1 (Yv.move rfl eV) ?_
   refine Y1 (Yv.bits rfl rfl (E rfl rfl) (E rfl rfl)) ?_
   refine Y1 (Yv.eql rfl eV eV) ?_
   refine Y1 (Yv.assign rfl eV) ?_
   refine nl ?_
   refine AW.cond rfl (fun h11t => ?_) (fun h11f => ?_)
   ·
    try replace h11t := of_decide_eq_true h11t
    refine AW.rseq ?_
    refine Y1 (Yv.move rfl eV) ?_
    refine Y1 (Yv.andN_i64 4 16 (by decide) (by decide) (by decide) rfl (E rfl rfl) (E rfl rfl) (fun hg => ⟨by omega, by omega⟩)) ?_
    refine Y1 (Yv.move rfl eV) ?_
    refine C1 rfl ce_63 (E rfl rfl) (evsC (E rfl rfl) (evsC (E rfl rfl) evs0)) (S1 := [Ent.box b 68 (rdCells bs (nextF bs (nextF bs r).2).2)]) (S2 := _) rfl (imm68 b bs (nextF bs (nextF bs r).2).2 hb hok2 4 (.inr (.inl rfl))) ?_
    rintro t83 S83 ⟨rfl, rfl⟩
    refine Y1 (Yv.buildS rfl sh_23 (evpC (E rfl rfl) (evpC (E rfl rfl) (evpC (E rfl rfl) (evpC (E rfl rfl) evp0)))) (fun _ => rfl)) ?_
    refine AWL.storeBox (i := 1) rfl rfl rfl ag_23 rfl (E rfl rfl) (E rfl rfl) rfl rfl (Nat.le_of_ble_eq_true rfl) ?_
    refine nl ?_
    refine AW.ret (retI (.cellA (i := 1) rfl ag_23 rfl rfl rfl .nil) ?_)
    rw [insR, if_neg (ne_true_of_eq_false h0f), insIn, if_neg h1f, if_neg (ne_true_of_eq_false h2f), if_neg h3f, if_neg h4f, if_neg h5f, if_neg h6f, if_neg h7f, if_pos h8t, insTwo, if_neg h9f, if_neg h10f, if_pos h11t]
    exact ⟨rfl, _, rfl⟩
   try replace h11f := of_decide_eq_false h11f
   refine AW.skip ?_
   refine AW.rseq ?_
   refine Y1 (Yv.move rfl eV) ?_
   refine C1 rfl ce_59 (E rfl rfl) (evsC (E rfl rfl) (evsC (E rfl rfl) evs0)) (S1 := [Ent.box b 68 (rdCells bs (nextF bs (nextF bs r).2).2)]) (S2 := _) rfl (must64 b bs (nextF bs (nextF bs r).2).2 false) ?_
   rintro t86 S86 rfl
   refine nl ?_
   refine AW.rseq ?_
   refine Y1 (Yv.buildS rfl sh_23 evp0 (fun _ => rfl)) ?_
   refine AWL.storeBox (i := 1) rfl rfl rfl ag_23 rfl (E rfl rfl) (E rfl rfl) rfl rfl (Nat.le_of_ble_eq_true rfl) ?_
   refine nl ?_
   refine AW.ret (retI (.cellA (i := 1) rfl ag_23 rfl rfl rfl .nil) ?_)
   rw [insR, if_neg (ne_true_of_eq_false h0f), insIn, if_neg h1f, if_neg (ne_true_of_eq_false h2f), if_neg h3f, if_neg h4f, if_neg h5f, if_neg h6f, if_neg h7f, if_pos h8t, insTwo, if_neg h9f, if_neg h10f, if_neg h11f]
   exact ⟨rfl, _, rfl⟩
  try replace h8f := of_decide_eq_false h8f
  refine AW.skip ?_
  refine AW.rseq ?_
  refine Y1 (Yv.move rfl eV) ?_
  refine C1 rfl ce_59 (E rfl rfl) (evsC (E rfl rfl) (evsC (E rfl rfl) evs0)) (S1 := [Ent.box b 68 (rdCells bs (nextF bs r).2)]) (S2 := _) rfl (must64 b bs (nextF bs r).2 false) ?_
  rintro t86 S86 rfl
  refine nl ?_
  refine AW.rseq ?_
  refine Y1 (Yv.buildS rfl sh_23 evp0 (fun _ => rfl)) ?_
  refine AWL.storeBox (i := 1) rfl rfl rfl ag_23 rfl (E rfl rfl) (E rfl rfl) rfl rfl (Nat.le_of_ble_eq_true rfl) ?_
  refine nl ?_
  refine AW.ret (retI (.cellA (i := 1) rfl ag_23 rfl rfl rfl .nil) ?_)
  rw [insR, if_neg (ne_true_of_eq_false h0f), insIn, if_neg h1f, if_neg (ne_true_of_eq_false h2f), if_neg h3f, if_neg h4f, if_neg h5f, if_neg h6f, if_neg h7f, if_neg h8f]
  exact ⟨rfl, _, rfl⟩

set_option maxHeartbeats 2000000 in
theorem Decode42 (bs : List UInt8) (hb : bs.length ≤ 1099511627776) :
    ACalls Tryd.prog 17 [u8s bs] [] (fun t_ S => t_ = .tup [insT (decI bs), .v (.int .i64 (decN bs : Int)), .v (.int .i64 (decE bs))]) := by
  refine ACalls.intro Tryd.func17 rfl Tryd.ntmps17 (Nat.le_of_ble_eq_true rfl) rfl fun X w0 => ?_
  refine AW.rseq ?_
  refine AWL.allocOp rfl rfl (B rfl) rfl zc_23 (fun b2 => ?_)
  refine Y1 (Yv.assign rfl eV) ?_
  refine Y1 (Yv.assign rfl eV) ?_
  refine nl ?_
  refine AW.rseq ?_
  refine Y1 (Yv.move rfl eV) ?_
  refine Y1 (Yv.buildS rfl sh_68 (evpC (E rfl rfl) evp0) (fun _ => rfl)) ?_
  refine AWL.boxOp rfl rfl (B rfl) rfl (E rfl rfl) rfl (fun b9 => ?_)
  refine Y1 (Yv.assign rfl eV) ?_
  refine nl ?_
  refine AW.perm (S' := [.box b9 68 (rdCells bs rd0), .box b2 23 (insCells nilI)]) (List.Perm.swap _ _ []) ?_
  refine AW.rseq ?_
  refine Y1 (Yv.move rfl eV) ?_
  refine C1 rfl ce_44 (E rfl rfl) (evsC (E rfl rfl) evs0) (S1 := [Ent.box b9 68 (rdCells bs rd0)]) (S2 := _) rfl (instruction54 b9 bs rd0 hb (Nat.zero_le _)) ?_
  rintro t11 S11 ⟨rfl, E11, rfl⟩
  refine AWL.tuck ?_
  refine AWL.allocOp rfl rfl (B rfl) rfl zc_23 (fun b6 => ?_)
  refine AWL.perm (S' := [Ent.box b9 68 (rdCells bs (insR bs rd0).2), .box b2 23 (insCells nilI), .box b6 23 (insCells nilI)] ++ E11) (List.Perm.append_left [_, _] (List.perm_append_comm (l₁ := [_]) (l₂ := E11))) ?_
  refine AWL.storeBox (i := 2) rfl rfl rfl ag_23 rfl (E rfl rfl) (E rfl rfl) rfl rfl (Nat.le_of_ble_eq_true rfl) ?_
  refine nl ?_
  refine AW.seq ?_
  refine AW.block ?_
  refine AW.rseq ?_
  refine Y1 (Yv.move rfl eV) ?_
  refine Y1 (Yv.nilChk rfl eV) ?_
  refine Y1 (Yv.fieldBox rfl fo_68_3 eV) ?_
  refine Y1 (Yv.loadBox rfl ag_4 (i := 0) rfl (E rfl rfl) rfl) ?_
  refine Y1 (Yv.assign rfl eV) ?_
  refine nl ?_
  refine AW.cond rfl (fun h0t => ?_) (fun h0f => ?_)
  ·
   try replace h0t := of_decide_eq_true h0t
   refine AW.rseq ?_
   refine Y1 (Yv.buildS rfl sh_23 evp0 (fun _ => rfl)) ?_
   refine AWL.storeBox (i := 1) rfl rfl rfl ag_23 rfl (E rfl rfl) (E rfl rfl) rfl rfl (Nat.le_of_ble_eq_true rfl) ?_
   refine Y1 (Yv.assign rfl eV) ?_
   refine Y1 (Yv.assign rfl eV) ?_
   refine nl ?_
   refine AW.ret (retI (.cellA (i := 1) rfl ag_23 rfl rfl rfl (.tmp rfl (.tmp rfl .nil))) ?_)
   rw [decI, if_pos (.inl h0t), decN, if_pos (.inl h0t), decE, if_pos h0t]
   rfl
  try replace h0f := of_decide_eq_false h0f
  refine AW.rseq ?_
  refine Y1 (Yv.move rfl eV) ?_
  refine Y1 (Yv.nilChk rfl eV) ?_
  refine Y1 (Yv.fieldBox rfl fo_68_2 eV) ?_
  refine Y1 (Yv.loadBox rfl ag_4 (i := 0) rfl (E rfl rfl) rfl) ?_
  refine Y1 (Yv.assign rfl eV) ?_
  refine nl ?_
  refine AW.cond rfl (fun h1t => ?_) (fun h1f => ?_)
  ·
   try replace h1t := of_decide_eq_true h1t
   refine AW.rseq ?_
   refine Y1 (Yv.buildS rfl sh_23 evp0 (fun _ => rfl)) ?_
   refine AWL.storeBox (i := 1) rfl rfl rfl ag_23 rfl (E rfl rfl) (E rfl rfl) rfl rfl (Nat.le_of_ble_eq_true rfl) ?_
   refine Y1 (Yv.assign rfl eV) ?_
   refine Y1 (Yv.assign rfl eV) ?_
   refine nl ?_
   refine AW.ret (retI (.cellA (i := 1) rfl ag_23 rfl rfl rfl (.tmp rfl (.tmp rfl .nil))) ?_)
   rw [decI, if_pos (.inr h1t), decN, if_pos (.inr h1t), decE, if_neg (ne_true_of_eq_false h0f), if_pos h1t]
   rfl
  try replace h1f := of_decide_eq_false h1f
  refine AW.skip ?_
  refine AW.rseqH (HeldBox b6 (insVals (insR bs rd0).1)) rfl (tells_box (k := 2) rfl) ?_
  refine AWH.tk (i := 0) rfl rfl rfl (B rfl) (heldLoadA rfl ag_23 (E rfl rfl) rfl rfl rfl rfl) ?_
  refine AWH.tk (i := 1) rfl rfl rfl (B rfl) (heldAll (freeMove rfl (E rfl rfl))) ?_
  refine AWH.tk (i := 2) rfl rfl rfl (B rfl) (heldAll (freeNil rfl (E rfl rfl))) ?_
  refine AWH.tk (i := 3) rfl rfl rfl (B rfl) (heldAll (freeField rfl fo_68_1 (E rfl rfl))) ?_
  refine AWH.two (i := 4) (j := 5) (by kernel_rfl) rfl rfl ?_ ?_
  ·
   refine Y1 (Yv.loadBox rfl ag_3 (i := 0) rfl (E rfl rfl) rfl) ?_
   refine tb 2 rfl ?_
   refine AWH.one (i := 5) (by kernel_rfl) rfl ?_
   refine AWL.storeBox (i := 1) rfl rfl rfl ag_23 rfl (E rfl rfl) (E rfl rfl) rfl rfl (Nat.le_of_ble_eq_true rfl) ?_
   refine tb 2 rfl ?_
   refine AWH.one (i := 6) (by kernel_rfl) rfl ?_
   refine Y1 (Yv.assign rfl eV) ?_
   refine tb 2 rfl ?_
   refine AWH.one (i := 7) (by kernel_rfl) rfl ?_
   refine Y1 (Yv.assign rfl eV) ?_
   refine tb 2 rfl ?_
   refine AWH.done (by kernel_rfl) ?_
   refine AW.ret (retI (.cellA (i := 1) rfl ag_23 rfl rfl rfl (.tmp rfl (.tmp rfl .nil))) ?_)
   have hno : ¬ ((insR bs rd0).2.wrong = true ∨ (insR bs rd0).2.cut = true) := by rw [h0f, h1f]; simp
   rw [decI, if_neg hno, decN, if_neg hno, decE, if_neg (ne_true_of_eq_false h0f), if_neg (ne_true_of_eq_false h1f)]
   rfl
  ·
   refine AWL.storeBox (i := 1) rfl rfl rfl ag_23 rfl (E rfl rfl) (E rfl rfl) rfl rfl (Nat.le_of_ble_eq_true rfl) ?_
   refine tb 2 rfl ?_
   refine AWH.one (i := 4) (by kernel_rfl) rfl ?_
   refine Y1 (Yv.loadBox rfl ag_3 (i := 0) rfl (E rfl rfl) rfl) ?_
   refine tb 2 rfl ?_
   refine AWH.one (i := 6) (by kernel_rfl) rfl ?_
   refine Y1 (Yv.assign rfl eV) ?_
   refine tb 2 rfl ?_
   refine AWH.one (i := 7) (by kernel_rfl) rfl ?_
   refine Y1 (Yv.assign rfl eV) ?_
   refine tb 2 rfl ?_
   refine AWH.done (by kernel_rfl) ?_
   refine AW.ret (retI (.cellA (i := 1) rfl ag_23 rfl rfl rfl (.tmp rfl (.tmp rfl .nil))) ?_)
   have hno : ¬ ((insR bs rd0).2.wrong = true ∨ (insR bs rd0).2.cut = true) := by rw [h0f, h1f]; simp
   rw [decI, if_neg hno, decN, if_neg hno, decE, if_neg (ne_true_of_eq_false h0f), if_neg (ne_true_of_eq_false h1f)]
   rfl

end Go.Proofs.YtjndpakhmgapjaaDoor

namespace Go.Proofs.YtjndpakhmgapjaaDoor
open Go Go.RowKit
set_option linter.unusedSimpArgs false
set_option linter.unusedVariables false
set_option linter.unnecessarySimpa false
def wordsL : List (List UInt8) := [[109, 111, 118, 101], [99, 111, 110, 115, 116], [108, 111, 97, 100], [115, 116, 111, 114, 101], [108, 101, 97], [97, 100, 100], [111, 114], [97, 100, 99], [115, 98, 98], [97, 110, 100], [115, 117, 98], [120, 111, 114], [99, 109, 112], [116, 101, 115, 116], [97, 100, 100, 73], [111, 114, 73], [97, 110, 100, 73], [115, 117, 98, 73], [120, 111, 114, 73], [99, 109, 112, 73], [105, 109, 117, 108], [109, 117, 108], [100, 105, 118], [110, 101, 103], [110, 111, 116], [115, 104, 108], [115, 104, 114], [115, 97, 114], [115, 104, 108, 73], [115, 104, 114, 73], [115, 97, 114, 73], [115, 101, 116], [98, 121, 116, 101], [109, 111, 118, 101, 73, 102], [106, 117, 109, 112], [106, 117, 109, 112, 73, 102], [99, 97, 108, 108], [99, 97, 108, 108, 84, 111], [106, 117, 109, 112, 84, 111], [114, 101, 116], [112, 117, 115, 104], [112, 111, 112], [115, 121, 115], [116, 114, 97, 112], [116, 111, 88], [102, 114, 111, 109, 88], [97, 100, 100, 88], [109, 117, 108, 88], [115, 117, 98, 88], [100, 105, 118, 88], [99, 109, 112, 88], [105, 110, 116, 88]]
def digitsL : List UInt8 := [48, 49, 50, 51, 52, 53, 54, 55, 56, 57, 97, 98, 99, 100, 101, 102, 103, 104, 105, 106, 107, 108, 109, 110, 111, 112, 113, 114, 115, 116, 117, 118, 119, 120, 121, 122]
def pairsL : List UInt8 := [48, 48, 48, 49, 48, 50, 48, 51, 48, 52, 48, 53, 48, 54, 48, 55, 48, 56, 48, 57, 49, 48, 49, 49, 49, 50, 49, 51, 49, 52, 49, 53, 49, 54, 49, 55, 49, 56, 49, 57, 50, 48, 50, 49, 50, 50, 50, 51, 50, 52, 50, 53, 50, 54, 50, 55, 50, 56, 50, 57, 51, 48, 51, 49, 51, 50, 51, 51, 51, 52, 51, 53, 51, 54, 51, 55, 51, 56, 51, 57, 52, 48, 52, 49, 52, 50, 52, 51, 52, 52, 52, 53, 52, 54, 52, 55, 52, 56, 52, 57, 53, 48, 53, 49, 53, 50, 53, 51, 53, 52, 53, 53, 53, 54, 53, 55, 53, 56, 53, 57, 54, 48, 54, 49, 54, 50, 54, 51, 54, 52, 54, 53, 54, 54, 54, 55, 54, 56, 54, 57, 55, 48, 55, 49, 55, 50, 55, 51, 55, 52, 55, 53, 55, 54, 55, 55, 55, 56, 55, 57, 56, 48, 56, 49, 56, 50, 56, 51, 56, 52, 56, 53, 56, 54, 56, 55, 56, 56, 56, 57, 57, 48, 57, 49, 57, 50, 57, 51, 57, 52, 57, 53, 57, 54, 57, 55, 57, 56, 57, 57]
def smallT (n : Int) : List UInt8 := if n < 10 then (digitsL.drop n.toNat).take ((n + 1).toNat - n.toNat) else (pairsL.drop (n * 2).toNat).take ((n * 2 + 2).toNat - (n * 2).toNat)
def wordT (k : Int) : List UInt8 := wordsL.getD (k.toNat - 1) []
def putOn (f has : Int) : Bool := !decide (bitsOf .and .i64 f has = 0)
def putT (f has n : Int) (s : List UInt8) : List UInt8 := if putOn f has = true then s ++ (32 :: smallT n) else s
theorem word_get {j : Nat} (h : j < 52) : (wordsL.map sv)[j * 1]? = some (sv (wordsL.getD j [])) := by
  have : j < wordsL.length := h
  simp [this]
theorem small_len (n : Int) : (smallT n).length ≤ 200 := by
  unfold smallT
  split
  · rw [List.length_take, List.length_drop]
    have : digitsL.length = 36 := rfl
    omega
  · rw [List.length_take, List.length_drop]
    have : pairsL.length = 200 := rfl
    omega
def ik0 : Ins := ⟨41, 15, 0, 0, 0, 0⟩
def ik1 : Ins := ⟨3, 9, 3, 0, 1, -1⟩
theorem kv0 : validF ik0 = true := by decide +kernel
theorem kv1 : validF ik1 = true ∧ encF ik1 = [76, 15, 182, 139, 255, 255, 255, 255] := by decide +kernel
theorem kd0 : decI [65, 87, 0] = ik0 ∧ decN [65, 87, 0] = 2 ∧ decE [65, 87, 0] = 0 := by decide +kernel
theorem kf0 : (fieldsF 41).1 = 1 := by decide +kernel
theorem kt0 : putT 1 16 0 (putT 1 8 0 (putT 1 4 0 (putT 1 2 0 (putT 1 1 15 (wordT 41))))) = [112, 117, 115, 104, 32, 49, 53] := by decide +kernel
end Go.Proofs.YtjndpakhmgapjaaDoor

namespace Go.Proofs.YtjndpakhmgapjaaDoor
open Go Go.RowKit
set_option linter.unusedVariables false
set_option linter.unnecessarySimpa false
set_option linter.unusedSimpArgs false

set_option maxHeartbeats 400000 in
theorem small68 (n : Int) (h0 : 0 ≤ n) (h1 : n < 100) :
    ACalls Tryd.prog 68 [.v (.int .i64 n)] [] (fun t_ S => t_ = sv (smallT n)) := by
  have hd : digitsL.length = 36 := rfl
  have hp : pairsL.length = 200 := rfl
  refine ACalls.intro Tryd.func68 rfl Tryd.ntmps68 (Nat.le_of_ble_eq_true rfl) rfl fun X w0 => ?_
  refine AW.rseq ?_
  refine Y1 (Yv.assign rfl eV) ?_
  refine nl ?_
  refine AW.seq ?_
  refine AW.rseq ?_
  refine Y1 (Yv.move rfl eV) ?_
  refine Y1 (Yv.lss rfl eV eV) ?_
  refine nl ?_
  refine AW.cond rfl (fun h0t => ?_) (fun h0f => ?_)
  ·
   try replace h0t := of_decide_eq_true h0t
   refine AW.rseq ?_
   refine Y1 (Yv.move rfl eV) ?_
   refine Y1 (Yv.move rfl eV) ?_
   refine Y1 (Yv.addN_i64 rfl (E rfl rfl) (E rfl rfl) (fun hg => by omega)) ?_
   refine Y1 (Yv.sliceL (s := digitsL) rfl st_9 (E rfl rfl) (Bound.some_ (E rfl rfl) (fun hg => (Int.toNat_of_nonneg (by omega)).symm)) (Bound.some_ (E rfl rfl) (fun hg => (Int.toNat_of_nonneg (by omega)).symm)) (fun hg => ⟨by omega, by omega⟩)) ?_
   refine Y1 (Yv.assign rfl eV) ?_
   refine nl ?_
   refine AW.ret (retI (.tmp rfl .nil) ?_)
   rw [smallT, if_pos h0t]
   rfl
  try replace h0f := of_decide_eq_false h0f
  refine AW.skip ?_
  refine AW.rseq ?_
  refine Y1 (Yv.move rfl eV) ?_
  refine Y1 (Yv.mulN_i64 rfl (E rfl rfl) (E rfl rfl) (fun hg => by omega)) ?_
  refine Y1 (Yv.move rfl eV) ?_
  refine Y1 (Yv.mulN_i64 rfl (E rfl rfl) (E rfl rfl) (fun hg => by omega)) ?_
  refine Y1 (Yv.addN_i64 rfl (E rfl rfl) (E rfl rfl) (fun hg => by omega)) ?_
  refine Y1 (Yv.sliceL (s := pairsL) rfl st_9 (E rfl rfl) (Bound.some_ (E rfl rfl) (fun hg => (Int.toNat_of_nonneg (by omega)).symm)) (Bound.some_ (E rfl rfl) (fun hg => (Int.toNat_of_nonneg (by omega)).symm)) (fun hg => ⟨by omega, by omega⟩)) ?_
  refine Y1 (Yv.assign rfl eV) ?_
  refine nl ?_
  refine AW.ret (retI (.tmp rfl .nil) ?_)
  rw [smallT, if_neg h0f]
  rfl

set_option maxHeartbeats 400000 in
theorem formatInt56 (n : Int) (h0 : 0 ≤ n) (h1 : n < 100) :
    ACalls Tryd.prog 56 [.v (.int .i64 n), .v (.int .i64 10)] [] (fun t_ S => t_ = sv (smallT n)) := by
  refine ACalls.intro Tryd.func56 rfl Tryd.ntmps56 (Nat.le_of_ble_eq_true rfl) rfl fun X w0 => ?_
  refine AW.rseq ?_
  refine Y1 (Yv.assign rfl eV) ?_
  refine nl ?_
  refine AW.seq ?_
  refine AW.rseq ?_
  refine Y1 (Yv.move rfl eV) ?_
  refine Y1 (Yv.eql rfl eV eV) ?_
  refine nl ?_
  refine AW.cond rfl (fun h0t => ?_) (fun h0f => ?_)
  ·
   try replace h0t := of_decide_eq_true h0t
   refine AW.seq ?_
   refine AW.rseq ?_
   refine Y1 (Yv.move rfl eV) ?_
   refine Y1 (Yv.leq rfl eV eV) ?_
   refine Y1 (Yv.move rfl eV) ?_
   refine AWL.ygT rfl rfl rfl rfl (B rfl) (Yv.move rfl (E rfl rfl)) ?_
   refine AWL.ygT rfl rfl rfl rfl (B rfl) (Yv.lss rfl (Eg rfl rfl id) (E rfl rfl)) ?_
   refine Y1 (Yv.pickAnd rfl (E rfl rfl) (Eg rfl rfl id)) ?_
   refine nl ?_
   refine AW.cond rfl (fun h1t => ?_) (fun h1f => ?_)
   ·
    try replace h1t := of_decide_eq_true h1t
    refine AW.rseq ?_
    refine Y1 (Yv.move rfl eV) ?_
    refine AWL.callP rfl rfl (B rfl) rfl ce_68 (E rfl rfl) (evsC (E rfl rfl) evs0) (small68 n h0 h1) (fun t S h => h) ?_
    refine Y1 (Yv.assign rfl eV) ?_
    refine nl ?_
    refine AW.ret (retI (.tmp rfl .nil) ?_)
    rfl
   try replace h1f := of_decide_eq_false h1f
   exfalso
   simp only [Bool.or_eq_true, Bool.and_eq_true, Bool.or_eq_false_iff, Bool.and_eq_false_iff, Bool.not_eq_true', Bool.not_eq_false', decide_eq_true_eq, decide_eq_false_iff_not, Decidable.not_not] at h1f
   omega
  try replace h0f := of_decide_eq_false h0f
  exact absurd h0f (by decide)

set_option maxHeartbeats 400000 in
theorem formatInt41 (n : Int) (h0 : 0 ≤ n) (h1 : n < 100) :
    ACalls Tryd.prog 41 [.v (.int .i64 n), .v (.int .i64 10)] [] (fun t_ S => t_ = sv (smallT n)) := by
  refine ACalls.intro Tryd.func41 rfl Tryd.ntmps41 (Nat.le_of_ble_eq_true rfl) rfl fun X w0 => ?_
  refine AW.rseq ?_
  refine Y1 (Yv.assign rfl eV) ?_
  refine nl ?_
  refine AW.rseq ?_
  refine Y1 (Yv.move rfl eV) ?_
  refine Y1 (Yv.move rfl eV) ?_
  refine AWL.callP rfl rfl (B rfl) rfl ce_56 (E rfl rfl) (evsC (E rfl rfl) (evsC (E rfl rfl) evs0)) (formatInt56 n h0 h1) (fun t S h => h) ?_
  refine Y1 (Yv.assign rfl eV) ?_
  refine nl ?_
  refine AW.ret (retI (.tmp rfl .nil) ?_)
  rfl

set_option maxRecDepth 2000 in
set_option maxHeartbeats 2000000 in
theorem word39 (k : Int) (h0 : 1 ≤ k) (h1 : k ≤ 52) :
    ACalls Tryd.prog 39 [.v (.int .i64 k)] [] (fun t_ S => t_ = sv (wordT k)) := by
  refine ACalls.intro Tryd.func39 rfl Tryd.ntmps39 (Nat.le_of_ble_eq_true rfl) rfl fun X w0 => ?_
  refine AW.rseq ?_
  refine Y1 (Yv.assign rfl eV) ?_
  refine nl ?_
  refine AW.rseq ?_
  refine AWL.buildSlice1 rfl rfl (B rfl) rfl el_81 rfl (evsC (E rfl rfl) (evsC (E rfl rfl) (evsC (E rfl rfl) (evsC (E rfl rfl) (evsC (E rfl rfl) (evsC (E rfl rfl) (evsC (E rfl rfl) (evsC (E rfl rfl) (evsC (E rfl rfl) (evsC (E rfl rfl) (evsC (E rfl rfl) (evsC (E rfl rfl) (evsC (E rfl rfl) (evsC (E rfl rfl) (evsC (E rfl rfl) (evsC (E rfl rfl) (evsC (E rfl rfl) (evsC (E rfl rfl) (evsC (E rfl rfl) (evsC (E rfl rfl) (evsC (E rfl rfl) (evsC (E rfl rfl) (evsC (E rfl rfl) (evsC (E rfl rfl) (evsC (E rfl rfl) (evsC (E rfl rfl) (evsC (E rfl rfl) (evsC (E rfl rfl) (evsC (E rfl rfl) (evsC (E rfl rfl) (evsC (E rfl rfl) (evsC (E rfl rfl) (evsC (E rfl rfl) (evsC (E rfl rfl) (evsC (E rfl rfl) (evsC (E rfl rfl) (evsC (E rfl rfl) (evsC (E rfl rfl) (evsC (E rfl rfl) (evsC (E rfl rfl) (evsC (E rfl rfl) (evsC (E rfl rfl) (evsC (E rfl rfl) (evsC (E rfl rfl) (evsC (E rfl rfl) (evsC (E rfl rfl) (evsC (E rfl rfl) (evsC (E rfl rfl) (evsC (E rfl rfl) (evsC (E rfl rfl) (evsC (E rfl rfl) (evsC (E rfl rfl) evs0)))))))))))))))))))))))))))))))))))))))))))))))))))) (Nat.le_of_ble_eq_true rfl) rfl rfl ?_
  refine Y1 (Yv.assign rfl eV) ?_
  refine nl ?_
  refine AW.rseq ?_
  refine Y1 (Yv.move rfl eV) ?_
  refine Y1 (Yv.move rfl eV) ?_
  refine Y1 (Yv.subN_i64 rfl (E rfl rfl) (E rfl rfl) (fun hg => by omega)) ?_
  refine Y1 (Yv.indexSl (j := (k.toNat - 1)) rfl ss_81 (B rfl) (E rfl rfl) (E rfl rfl) (fun hg => ⟨by omega, by show (k.toNat - 1) * 1 < 52; omega⟩)) ?_
  refine Y1 (Yv.loadRp rfl ag_9 (E rfl rfl) (fun hg => word_get (by omega))) ?_
  refine Y1 (Yv.assign rfl eV) ?_
  refine nl ?_
  refine AW.ret (retI (.tmp rfl .nil) ?_)
  rfl

set_option maxHeartbeats 400000 in
theorem put40 (has n f : Int) (s : List UInt8) (b3 b5 : Nat) (hn : putOn f has = true → 0 ≤ n ∧ n < 100) (hl : s.length ≤ 1000) :
    ACalls Tryd.prog 40 [.v (.int .i64 has), .v (.int .i64 n), .v (.pointer (some ⟨b3, 0, none⟩)), .v (.pointer (some ⟨b5, 0, none⟩))] [.box b3 3 [.v (.int .i64 f)], .box b5 9 [sv s]] (fun t_ S => S = [.box b3 3 [.v (.int .i64 f)], .box b5 9 [sv (putT f has n s)]]) := by
  refine ACalls.intro Tryd.func40 rfl Tryd.ntmps40 (Nat.le_of_ble_eq_true rfl) rfl fun X w0 => ?_
  refine AW.rseq ?_
  refine Y1 (Yv.loadBox rfl ag_3 (i := 0) rfl (E rfl rfl) rfl) ?_
  refine Y1 (Yv.move rfl eV) ?_
  refine Y1 (Yv.bits rfl rfl (E rfl rfl) (E rfl rfl)) ?_
  refine Y1 (Yv.neq rfl eV eV) ?_
  refine nl ?_
  refine AW.cond rfl (fun h0t => ?_) (fun h0f => ?_)
  ·
   try replace h0t := of_decide_eq_true h0t
   have hn2 := hn h0t
   have hsl := small_len n
   refine AW.regionP rfl ?_
   refine AWP.take (i := 1) rfl (by kernel_rfl) (by kernel_rfl) (by kernel_rfl) rfl rfl (B rfl) (freeMove rfl (E rfl rfl)) ?_
   refine AWP.two (i := 0) (j := 2) (by kernel_rfl) rfl rfl ?_ ?_
   ·
    refine Y1 (Yv.loadBox rfl ag_9 (i := 1) rfl (E rfl rfl) rfl) ?_
    refine nl ?_
    refine AWP.one (i := 2) (by kernel_rfl) rfl ?_
    refine AWL.callP rfl rfl (B rfl) rfl ce_41 (E rfl rfl) (evsC (E rfl rfl) (evsC (E rfl rfl) evs0)) (formatInt41 n hn2.1 hn2.2) (fun t S h => h) ?_
    refine nl ?_
    refine AWP.one (i := 3) (by kernel_rfl) rfl ?_
    refine Y1 (Yv.addL rfl (E rfl rfl) (E rfl rfl) (fun hg => by first | omega | (simp only [List.length_append, List.length_cons, List.length_nil]; omega))) ?_
    refine nl ?_
    refine AWP.one (i := 4) (by kernel_rfl) rfl ?_
    refine Y1 (Yv.addL rfl (E rfl rfl) (E rfl rfl) (fun hg => by first | omega | (simp only [List.length_append, List.length_cons, List.length_nil]; omega))) ?_
    refine nl ?_
    refine AWP.one (i := 5) (by kernel_rfl) rfl ?_
    refine AWL.storeBox (i := 1) rfl rfl rfl ag_9 rfl (E rfl rfl) (E rfl rfl) rfl rfl (Nat.le_of_ble_eq_true rfl) ?_
    refine nl ?_
    refine AWP.done (by kernel_rfl) ?_
    refine retN .nil ?_
    (rw [putT, if_pos (show putOn f has = true from h0t)]; rfl)
   ·
    refine AWL.callP rfl rfl (B rfl) rfl ce_41 (E rfl rfl) (evsC (E rfl rfl) (evsC (E rfl rfl) evs0)) (formatInt41 n hn2.1 hn2.2) (fun t S h => h) ?_
    refine nl ?_
    refine AWP.two (i := 0) (j := 3) (by kernel_rfl) rfl rfl ?_ ?_
    ·
     refine Y1 (Yv.loadBox rfl ag_9 (i := 1) rfl (E rfl rfl) rfl) ?_
     refine nl ?_
     refine AWP.one (i := 3) (by kernel_rfl) rfl ?_
     refine Y1 (Yv.addL rfl (E rfl rfl) (E rfl rfl) (fun hg => by first | omega | (simp only [List.length_append, List.length_cons, List.length_nil]; omega))) ?_
     refine nl ?_
     refine AWP.one (i := 4) (by kernel_rfl) rfl ?_
     refine Y1 (Yv.addL rfl (E rfl rfl) (E rfl rfl) (fun hg => by first | omega | (simp only [List.length_append, List.length_cons, List.length_nil]; omega))) ?_
     refine nl ?_
     refine AWP.one (i := 5) (by kernel_rfl) rfl ?_
     refine AWL.storeBox (i := 1) rfl rfl rfl ag_9 rfl (E rfl rfl) (E rfl rfl) rfl rfl (Nat.le_of_ble_eq_true rfl) ?_
     refine nl ?_
     refine AWP.done (by kernel_rfl) ?_
     refine retN .nil ?_
     (rw [putT, if_pos (show putOn f has = true from h0t)]; rfl)
    ·
     refine Y1 (Yv.addL rfl (E rfl rfl) (E rfl rfl) (fun hg => by first | omega | (simp only [List.length_append, List.length_cons, List.length_nil]; omega))) ?_
     refine nl ?_
     refine AWP.one (i := 0) (by kernel_rfl) rfl ?_
     refine Y1 (Yv.loadBox rfl ag_9 (i := 1) rfl (E rfl rfl) rfl) ?_
     refine nl ?_
     refine AWP.one (i := 4) (by kernel_rfl) rfl ?_
     refine Y1 (Yv.addL rfl (E rfl rfl) (E rfl rfl) (fun hg => by first | omega | (simp only [List.length_append, List.length_cons, List.length_nil]; omega))) ?_
     refine nl ?_
     refine AWP.one (i := 5) (by kernel_rfl) rfl ?_
     refine AWL.storeBox (i := 1) rfl rfl rfl ag_9 rfl (E rfl rfl) (E rfl rfl) rfl rfl (Nat.le_of_ble_eq_true rfl) ?_
     refine nl ?_
     refine AWP.done (by kernel_rfl) ?_
     refine retN .nil ?_
     (rw [putT, if_pos (show putOn f has = true from h0t)]; rfl)
  try replace h0f := of_decide_eq_false h0f
  refine AW.skip ?_
  refine retN .nil ?_
  (rw [putT, if_neg (show ¬ putOn f has = true from ne_true_of_eq_false h0f)])

set_option maxHeartbeats 1000000 in
theorem text14  :
    ACalls Tryd.prog 14 [insT ik0] [] (fun t_ S => t_ = sv [112, 117, 115, 104, 32, 49, 53]) := by
  refine ACalls.intro Tryd.func14 rfl Tryd.ntmps14 (Nat.le_of_ble_eq_true rfl) rfl fun X w0 => ?_
  refine AW.rseq ?_
  refine AWL.boxOp rfl rfl (B rfl) rfl (E rfl rfl) rfl (fun b1 => ?_)
  refine Y1 (Yv.assign rfl eV) ?_
  refine nl ?_
  refine AW.seq ?_
  refine AW.rseq ?_
  refine Y1 (Yv.loadBoxA rfl ag_23 (i := 0) rfl (E rfl rfl) rfl rfl) ?_
  refine AWL.callP rfl rfl (B rfl) rfl ce_12 (E rfl rfl) (evsC (E rfl rfl) evs0) (valid27 ik0) (fun t S h => h) ?_
  refine Y1 (Yv.not rfl eV) ?_
  refine nl ?_
  refine AW.cond rfl (fun h0t => ?_) (fun h0f => ?_)
  ·
   try replace h0t := of_decide_eq_true h0t
   rw [kv0] at h0t
   cases h0t
  try replace h0f := of_decide_eq_false h0f
  refine AW.skip ?_
  refine AW.rseq ?_
  refine Y1 (Yv.fieldBox rfl fo_23_0 eV) ?_
  refine Y1 (Yv.loadBox rfl ag_3 (i := 0) rfl (E rfl rfl) rfl) ?_
  refine AWL.callT rfl rfl (B rfl) rfl ce_35 (E rfl rfl) (evsC (E rfl rfl) evs0) (fields46 41) ?_
  rintro t13 S13 rfl
  rw [kf0]
  refine Y1 (Yv.move rfl eV) ?_
  refine Y1 (Yv.extract rfl eV rfl) ?_
  refine Y1 (Yv.extract rfl eV rfl) ?_
  refine AWL.allocOp rfl rfl (B rfl) rfl zc_3 (fun b3 => ?_)
  refine AWL.storeBox (i := 1) rfl rfl rfl ag_3 rfl (E rfl rfl) (E rfl rfl) rfl rfl (Nat.le_of_ble_eq_true rfl) ?_
  refine Y1 (Yv.assign rfl eV) ?_
  refine nl ?_
  refine AW.rseq ?_
  refine Y1 (Yv.fieldBox rfl fo_23_0 eV) ?_
  refine Y1 (Yv.loadBox rfl ag_3 (i := 0) rfl (E rfl rfl) rfl) ?_
  refine AWL.callP rfl rfl (B rfl) rfl ce_39 (E rfl rfl) (evsC (E rfl rfl) evs0) (word39 41 (by decide) (by decide)) (fun t S h => h) ?_
  refine AWL.allocOp rfl rfl (B rfl) rfl zc_9 (fun b5 => ?_)
  refine AWL.storeBox (i := 2) rfl rfl rfl ag_9 rfl (E rfl rfl) (E rfl rfl) rfl rfl (Nat.le_of_ble_eq_true rfl) ?_
  refine nl ?_
  refine AW.rseq ?_
  refine Y1 (Yv.makeFunc rfl evs0 rfl (evsC (E rfl rfl) (evsC (E rfl rfl) evs0)) rfl) ?_
  refine Y1 (Yv.assign rfl eV) ?_
  refine nl ?_
  refine AW.perm (S' := [Ent.box b3 3 [T.v (.int .i64 1)], Ent.box b5 9 [sv (wordT 41)]] ++ [.box b1 23 (insCells ik0)]) (List.perm_append_comm (l₁ := [_, _]) (l₂ := [_])) ?_
  refine AW.rseq ?_
  refine Y1 (Yv.move rfl eV) ?_
  refine Y1 (Yv.fieldBox rfl fo_23_1 eV) ?_
  refine Y1 (Yv.loadBox rfl ag_3 (i := 2) rfl (E rfl rfl) rfl) ?_
  refine C1 rfl ce_40 (E rfl rfl) (evsC (E rfl rfl) (evsC (E rfl rfl) evs0)) (S1 := [Ent.box b3 3 [T.v (.int .i64 1)], Ent.box b5 9 [sv ((wordT 41))]]) (S2 := _) rfl (put40 1 15 1 (wordT 41) b3 b5 (by decide) (by decide +kernel)) ?_
  rintro t23 S23 rfl
  refine nl ?_
  refine AW.rseq ?_
  refine Y1 (Yv.move rfl eV) ?_
  refine Y1 (Yv.fieldBox rfl fo_23_2 eV) ?_
  refine Y1 (Yv.loadBox rfl ag_3 (i := 2) rfl (E rfl rfl) rfl) ?_
  refine C1 rfl ce_40 (E rfl rfl) (evsC (E rfl rfl) (evsC (E rfl rfl) evs0)) (S1 := [Ent.box b3 3 [T.v (.int .i64 1)], Ent.box b5 9 [sv ((putT 1 1 15 (wordT 41)))]]) (S2 := _) rfl (put40 2 0 1 (putT 1 1 15 (wordT 41)) b3 b5 (by decide) (by decide +kernel)) ?_
  rintro t27 S27 rfl
  refine nl ?_
  refine AW.rseq ?_
  refine Y1 (Yv.move rfl eV) ?_
  refine Y1 (Yv.fieldBox rfl fo_23_5 eV) ?_
  refine Y1 (Yv.loadBox rfl ag_2 (i := 2) rfl (E rfl rfl) rfl) ?_
  refine C1 rfl ce_40 (E rfl rfl) (evsC (E rfl rfl) (evsC (E rfl rfl) evs0)) (S1 := [Ent.box b3 3 [T.v (.int .i64 1)], Ent.box b5 9 [sv ((putT 1 2 0 (putT 1 1 15 (wordT 41))))]]) (S2 := _) rfl (put40 4 0 1 (putT 1 2 0 (putT 1 1 15 (wordT 41))) b3 b5 (by decide) (by decide +kernel)) ?_
  rintro t31 S31 rfl
  refine nl ?_
  refine AW.rseq ?_
  refine Y1 (Yv.move rfl eV) ?_
  refine Y1 (Yv.fieldBox rfl fo_23_3 eV) ?_
  refine Y1 (Yv.loadBox rfl ag_3 (i := 2) rfl (E rfl rfl) rfl) ?_
  refine C1 rfl ce_40 (E rfl rfl) (evsC (E rfl rfl) (evsC (E rfl rfl) evs0)) (S1 := [Ent.box b3 3 [T.v (.int .i64 1)], Ent.box b5 9 [sv ((putT 1 4 0 (putT 1 2 0 (putT 1 1 15 (wordT 41)))))]]) (S2 := _) rfl (put40 8 0 1 (putT 1 4 0 (putT 1 2 0 (putT 1 1 15 (wordT 41)))) b3 b5 (by decide) (by decide +kernel)) ?_
  rintro t35 S35 rfl
  refine nl ?_
  refine AW.rseq ?_
  refine Y1 (Yv.move rfl eV) ?_
  refine Y1 (Yv.fieldBox rfl fo_23_4 eV) ?_
  refine Y1 (Yv.loadBox rfl ag_3 (i := 2) rfl (E rfl rfl) rfl) ?_
  refine C1 rfl ce_40 (E rfl rfl) (evsC (E rfl rfl) (evsC (E rfl rfl) evs0)) (S1 := [Ent.box b3 3 [T.v (.int .i64 1)], Ent.box b5 9 [sv ((putT 1 8 0 (putT 1 4 0 (putT 1 2 0 (putT 1 1 15 (wordT 41))))))]]) (S2 := _) rfl (put40 16 0 1 (putT 1 8 0 (putT 1 4 0 (putT 1 2 0 (putT 1 1 15 (wordT 41))))) b3 b5 (by decide) (by decide +kernel)) ?_
  rintro t39 S39 rfl
  refine nl ?_
  refine AW.rseq ?_
  refine Y1 (Yv.loadBox rfl ag_9 (i := 1) rfl (E rfl rfl) rfl) ?_
  refine Y1 (Yv.assign rfl eV) ?_
  refine nl ?_
  refine AW.ret (retI (.tmp rfl .nil) ?_)
  rw [kt0]
  rfl

set_option maxHeartbeats 1000000 in
theorem known16  :
    ACalls Tryd.prog 16 [] [] fun t_ S => t_ = .v (.bool true) := by
  refine ACalls.intro Tryd.func16 rfl Tryd.ntmps16 (Nat.le_of_ble_eq_true rfl) rfl fun X w0 => ?_
  refine AW.rseq ?_
  refine Y1 (Yv.assign rfl eV) ?_
  refine nl ?_
  refine AW.rseq ?_
  refine Y1 (Yv.buildS rfl sh_23 (evpC (E rfl rfl) (evpC (E rfl rfl) (evpC (E rfl rfl) (evpC (E rfl rfl) (evpC (E rfl rfl) evp0))))) (fun _ => rfl)) ?_
  refine AWL.callT rfl rfl (B rfl) rfl ce_11 (E rfl rfl) (evsC (E rfl rfl) evs0) (encode19 ik1) ?_
  rintro t8 S8 rfl
  rw [if_pos kv1.1, kv1.2]
  refine Y1 (Yv.move rfl eV) ?_
  refine Y1 (Yv.extract rfl eV rfl) ?_
  refine Y1 (Yv.extract rfl eV rfl) ?_
  refine Y1 (Yv.assign rfl eV) ?_
  refine Y1 (Yv.assign rfl eV) ?_
  refine nl ?_
  refine AW.rseq ?_
  refine AWL.buildSlice1 rfl rfl (B rfl) rfl el_24 rfl (evsC (E rfl rfl) (evsC (E rfl rfl) (evsC (E rfl rfl) evs0))) (Nat.le_of_ble_eq_true rfl) rfl rfl ?_
  refine AWL.callT rfl rfl (B rfl) rfl ce_17 (E rfl rfl) (evsC (E rfl rfl) evs0) (Decode42 [65, 87, 0] (by decide)) ?_
  rintro t13 S13 rfl
  rw [kd0.1, kd0.2.1, kd0.2.2]
  refine Y1 (Yv.move rfl eV) ?_
  refine Y1 (Yv.extract rfl eV rfl) ?_
  refine Y1 (Yv.extract rfl eV rfl) ?_
  refine Y1 (Yv.extract rfl eV rfl) ?_
  refine AWL.allocOp rfl rfl (B rfl) rfl zc_23 (fun b3 => ?_)
  refine AWL.storeBox (i := 0) rfl rfl rfl ag_23 rfl (E rfl rfl) (E rfl rfl) rfl rfl (Nat.le_of_ble_eq_true rfl) ?_
  refine Y1 (Yv.assign rfl eV) ?_
  refine Y1 (Yv.assign rfl eV) ?_
  refine nl ?_
  refine AW.rseq ?_
  refine Y1 (Yv.move rfl eV) ?_
  refine Y1 (Yv.eql rfl eV eV) ?_
  refine Y1 (Yv.move rfl eV) ?_
  refine AWL.ygT rfl rfl rfl rfl (B rfl) (Yv.move rfl (E rfl rfl)) ?_
  refine AWL.ygT rfl rfl rfl rfl (B rfl) (Yv.bytesStr rfl by_24 st_9 (Eg rfl rfl id)) ?_
  refine AWL.ygT rfl rfl rfl rfl (B rfl) (Yv.eqlL rfl (Eg rfl rfl id) (E rfl rfl)) ?_
  refine Y1 (Yv.pickAnd rfl (E rfl rfl) (Eg rfl rfl id)) ?_
  refine Y1 (Yv.move rfl eV) ?_
  refine AWL.ygT rfl rfl rfl rfl (B rfl) (Yv.move rfl (E rfl rfl)) ?_
  refine AWL.ygT rfl rfl rfl rfl (B rfl) (Yv.eql rfl (Eg rfl rfl id) (E rfl rfl)) ?_
  refine Y1 (Yv.pickAnd rfl (E rfl rfl) (Eg rfl rfl id)) ?_
  refine Y1 (Yv.move rfl eV) ?_
  refine AWL.ygT rfl rfl rfl rfl (B rfl) (Yv.move rfl (E rfl rfl)) ?_
  refine AWL.ygT rfl rfl rfl rfl (B rfl) (Yv.eql rfl (Eg rfl rfl id) (E rfl rfl)) ?_
  refine Y1 (Yv.pickAnd rfl (E rfl rfl) (Eg rfl rfl id)) ?_
  refine Y1 (Yv.move rfl eV) ?_
  refine AWL.ygT rfl rfl rfl rfl (B rfl) (Yv.loadBoxA rfl ag_23 (i := 0) rfl (E rfl rfl) rfl rfl) ?_
  refine AWL.ygT rfl rfl rfl rfl (B rfl) (Yv.buildS rfl sh_23 (evpC (E rfl rfl) (evpC (E rfl rfl) evp0)) (fun _ => rfl)) ?_
  refine AWL.ygT rfl rfl rfl rfl (B rfl) (Yv.eqlA rfl fl_23 (Eg rfl rfl id) (Eg rfl rfl id) rfl rfl rfl) ?_
  refine Y1 (Yv.pickAnd rfl (E rfl rfl) (Eg rfl rfl id)) ?_
  refine Y1 (Yv.move rfl eV) ?_
  refine AWL.ygT rfl rfl rfl rfl (B rfl) (Yv.loadBoxA rfl ag_23 (i := 0) rfl (E rfl rfl) rfl rfl) ?_
  refine AWL.callPgT rfl rfl rfl rfl (B rfl) rfl ce_12 (E rfl rfl) (evsC (Eg rfl rfl id) evs0) (fun hg => valid27 ik0) (fun t S h => h) ?_
  refine Y1 (Yv.pickAnd rfl (E rfl rfl) (Eg rfl rfl id)) ?_
  refine Y1 (Yv.move rfl eV) ?_
  refine AWL.ygT rfl rfl rfl rfl (B rfl) (Yv.loadBoxA rfl ag_23 (i := 0) rfl (E rfl rfl) rfl rfl) ?_
  refine AWL.callPgT rfl rfl rfl rfl (B rfl) rfl ce_14 (E rfl rfl) (evsC (Eg rfl rfl id) evs0) (fun hg => text14) (fun t S h => h) ?_
  refine AWL.ygT rfl rfl rfl rfl (B rfl) (Yv.eqlL rfl (Eg rfl rfl id) (E rfl rfl)) ?_
  refine Y1 (Yv.pickAnd rfl (E rfl rfl) (Eg rfl rfl id)) ?_
  refine Y1 (Yv.assign rfl eV) ?_
  refine nl ?_
  refine AW.ret (retI (.tmp rfl .nil) ?_)
  rw [kv0]
  rfl

end Go.Proofs.YtjndpakhmgapjaaDoor

namespace Go.Proofs.YtjndpakhmgapjaaDoor
open Go Go.RowKit
set_option linter.unusedVariables false
set_option linter.unnecessarySimpa false
set_option linter.unusedSimpArgs false

set_option maxHeartbeats 1000000 in
theorem cut47 (f : FormF) (bs : List UInt8) (hf : f ∈ formsF) (hbs : bs.length ≤ 1099511627776) :
    ACalls Tryd.prog 47 [formT f, u8s bs] [] fun t_ S => t_ = .v (.bool (cutF f bs)) := by
  have hf1 := forms_ok f hf
  have hf2 := forms_ok2 f hf
  have hgc := gC_bound hf1 hf2
  have hbl : (bytesF f (cutI f bs)).length ≤ 100 := by
    have h1 := sizeR_le f.imm
    have h2 := modB_len f (cutI f bs)
    rw [bytes_len]
    split <;> omega
  refine ACalls.intro Tryd.func47 rfl Tryd.ntmps47 (Nat.le_of_ble_eq_true rfl) rfl fun X w0 => ?_
  refine AW.rseq ?_
  refine AWL.boxOp rfl rfl (B rfl) rfl (E rfl rfl) rfl (fun b2 => ?_)
  refine Y1 (Yv.assign rfl eV) ?_
  refine nl ?_
  refine AW.rseq ?_
  refine Y1 (Yv.loadBoxA rfl ag_45 (i := 0) rfl (E rfl rfl) rfl rfl) ?_
  refine Y1 (Yv.move rfl eV) ?_
  refine AWL.callT rfl rfl (B rfl) rfl ce_45 (E rfl rfl) (evsC (E rfl rfl) (evsC (E rfl rfl) evs0)) (guess45 f bs hf1 hf2 hbs) ?_
  rintro t12 S12 rfl
  refine AWL.allocOp rfl rfl (B rfl) rfl zc_23 (fun b5 => ?_)
  refine AWL.storeBox (i := 1) rfl rfl rfl ag_23 rfl (E rfl rfl) (E rfl rfl) rfl rfl (Nat.le_of_ble_eq_true rfl) ?_
  refine nl ?_
  refine AW.eqS (S' := [.box b2 45 (formCells f), .box b5 23 (insCells (guessF f bs))]) rfl ?_
  refine AW.mid (α := Unit) (fun _ => [(1, true, u8s bs), (2, true, .v (.pointer (some ⟨b2, 0, none⟩))), (5, true, .v (.pointer (some ⟨b5, 0, none⟩)))]) (fun _ => [.box b2 45 (formCells f), .box b5 23 (insCells (cutI f bs))]) (fun _ => True) ?_ ?_
  ·
   refine AW.rseq ?_
   refine Y1 (Yv.fieldBox rfl fo_45_11 eV) ?_
   refine Y1 (Yv.loadBox rfl ag_3 (i := 0) rfl (E rfl rfl) rfl) ?_
   refine Y1 (Yv.eql rfl eV eV) ?_
   refine Y1 (Yv.move rfl eV) ?_
   refine AWL.ygT rfl rfl rfl rfl (B rfl) (Yv.fieldBox rfl fo_23_5 (E rfl rfl)) ?_
   refine AWL.ygT rfl rfl rfl rfl (B rfl) (Yv.loadBox rfl ag_2 (i := 1) rfl (Eg rfl rfl id) rfl) ?_
   refine AWL.callPgT rfl rfl rfl rfl (B rfl) rfl ce_66 (E rfl rfl) (evsC (Eg rfl rfl id) evs0) (fun hg => short70 (guessF f bs).imm) (fun t S h => h) ?_
   refine Y1 (Yv.pickAnd rfl (E rfl rfl) (Eg rfl rfl id)) ?_
   refine nl ?_
   refine AW.cond rfl (fun h0t => ?_) (fun h0f => ?_)
   ·
    try replace h0t := of_decide_eq_true h0t
    refine AW.rseq ?_
    refine AWL.buildSliceRow rfl rfl (B rfl) rfl el_24 (B rfl) rfl evs0 (Nat.le_of_ble_eq_true rfl) rfl rfl (fun A21 => ?_)
    refine Y1 (Yv.move rfl eV) ?_
    refine AWL.appendRow (i := 2) rfl rfl (B rfl) rfl el_24 (B rfl) rfl (E rfl rfl) (SrcT.sl so_24 (B rfl) (E rfl rfl) len_u8s) (by unfold maxLen; omega) (by omega) (fun A23 c23 => ?_)
    refine Y1 (Yv.assign rfl eV) ?_
    refine nl ?_
    refine AW.seq ?_
    refine AW.block ?_
    refine AW.loop3 (fun (m : Nat) (Ao : Option Addr) (co : Nat) => [(1, true, u8s bs), (2, true, .v (.pointer (some ⟨b2, 0, none⟩))), (5, true, .v (.pointer (some ⟨b5, 0, none⟩))), (6, true, .v (.slice Ao (bs ++ List.replicate m 1).length co))]) (fun (m : Nat) (Ao : Option Addr) (co : Nat) => [.box b2 45 (formCells f), .box b5 23 (insCells (guessF f bs)), .row Ao (bs ++ List.replicate m 1).length co 5 1 ((bs ++ List.replicate m 1).map u8)]) (fun (m : Nat) (Ao : Option Addr) (co : Nat) => m = 0 ∨ bs.length + m ≤ 10) (fun (m : Nat) (Ao : Option Addr) (co : Nat) => 10 - (bs.length + m)) 0 A23 c23 ?_ ?_ ?_ ?_
    · exact .inl rfl
    · exact (Sub.cons rfl rfl (Sub.cons rfl rfl (Sub.cons rfl rfl (Sub.cons rfl (by simp) Sub.nil))))
    · simp
    ·
     intro m Ao co hinv
     have hrl : (bs ++ List.replicate m 1).length = bs.length + m := by rw [List.length_append, List.length_replicate]
     refine AW.seq ?_
     refine AW.rseq ?_
     refine Y1 (Yv.move rfl eV) ?_
     refine Y1 (Yv.lenV rfl so_24 (E rfl rfl)) ?_
     refine Y1 (Yv.lss rfl eV eV) ?_
     refine nl ?_
     refine AW.cond rfl (fun h1t => ?_) (fun h1f => ?_)
     ·
      try replace h1t := of_decide_eq_true h1t
      refine AW.skip ?_
      refine AW.block ?_
      refine AW.region ?_
      refine Y1 (Yv.move rfl eV) ?_
      refine AWL.buildSlice1 rfl rfl (B rfl) rfl el_24 rfl (evsC (E rfl rfl) evs0) (Nat.le_of_ble_eq_true rfl) rfl rfl ?_
      refine AWL.appendRow (i := 2) rfl rfl (B rfl) rfl el_24 (B rfl) rfl (E rfl rfl) (SrcT.sl so_24 (B rfl) (E rfl rfl) rfl) (by unfold maxLen; omega) (by omega) (fun A29 c29 => ?_)
      refine Y1 (Yv.assign rfl eV) ?_
      refine nl ?_
      have hl2 : ((bs ++ List.replicate m 1) ++ [(1 : UInt8)]).length = (bs ++ List.replicate m 1).length + 1 := by simp [Nat.add_assoc]
      refine ⟨m + 1, A29, c29, .inr (by omega), by omega, Sub.cons rfl rfl (Sub.cons rfl rfl (Sub.cons rfl rfl (Sub.cons rfl (by simp [Nat.add_assoc]) Sub.nil))), ?_⟩
      rw [List.replicate_succ', ← List.append_assoc, List.map_append (l₁ := (bs ++ List.replicate m 1)), hl2]
      rfl
     try replace h1f := of_decide_eq_false h1f
     refine AW.exit ?_
     have hpd := pad_done (bs := bs) (m := m) (by omega) hinv
     refine AW.freeze 2 6 rfl (B rfl) rfl ?_
     rw [hpd]
     refine AW.region ?_
     refine Y1 (Yv.loadBoxA rfl ag_45 (i := 0) rfl (E rfl rfl) rfl rfl) ?_
     refine Y1 (Yv.move rfl eV) ?_
     refine AWL.callT rfl rfl (B rfl) rfl ce_45 (E rfl rfl) (evsC (E rfl rfl) (evsC (E rfl rfl) evs0)) (guess45 f (pad bs) hf1 hf2 (by unfold pad; rw [List.length_append, List.length_replicate]; omega)) ?_
     rintro t32 S32 rfl
     refine AWL.storeBox (i := 1) rfl rfl rfl ag_23 rfl (E rfl rfl) (E rfl rfl) rfl rfl (Nat.le_of_ble_eq_true rfl) ?_
     refine nl ?_
     refine ⟨(), trivial, (Sub.cons rfl rfl (Sub.cons rfl rfl (Sub.cons rfl rfl Sub.nil))), ?_⟩
     rw [cutI, if_pos h0t]
     rfl
   try replace h0f := of_decide_eq_false h0f
   refine AW.skip ?_
   refine ⟨(), trivial, (Sub.cons rfl rfl (Sub.cons rfl rfl (Sub.cons rfl rfl Sub.nil))), ?_⟩
   rw [cutI, if_neg (ne_true_of_eq_false h0f)]
  ·
   rintro _ hmid
   refine AW.rseq ?_
   refine Y1 (Yv.loadBoxA rfl ag_45 (i := 0) rfl (E rfl rfl) rfl rfl) ?_
   refine Y1 (Yv.loadBoxA rfl ag_23 (i := 1) rfl (E rfl rfl) rfl rfl) ?_
   refine AWL.callP rfl rfl (B rfl) rfl ce_24 (E rfl rfl) (evsC (E rfl rfl) (evsC (E rfl rfl) evs0)) (fits51 f (cutI f bs)) (fun t S h => h) ?_
   refine Y1 (Yv.assign rfl eV) ?_
   refine nl ?_
   refine AW.seq ?_
   refine AW.rseq ?_
   refine Y1 (Yv.move rfl eV) ?_
   refine Y1 (Yv.not rfl eV) ?_
   refine nl ?_
   refine AW.cond rfl (fun h2t => ?_) (fun h2f => ?_)
   ·
    try replace h2t := of_decide_eq_true h2t
    have hnf : fitsF f (cutI f bs) = false := by simpa using h2t
    refine AW.rseq ?_
    refine Y1 (Yv.assign rfl eV) ?_
    refine nl ?_
    refine AW.ret (retI (.tmp rfl .nil) ?_)
    rw [cutF, hnf]
    rfl
   try replace h2f := of_decide_eq_false h2f
   have hfit : fitsF f (cutI f bs) = true := by simpa using h2f
   have hr := fits_range hfit
   refine AW.skip ?_
   refine AW.rseq ?_
   refine Y1 (Yv.loadBoxA rfl ag_45 (i := 0) rfl (E rfl rfl) rfl rfl) ?_
   refine Y1 (Yv.loadBoxA rfl ag_23 (i := 1) rfl (E rfl rfl) rfl rfl) ?_
   refine AWL.callT rfl rfl (B rfl) rfl ce_25 (E rfl rfl) (evsC (E rfl rfl) (evsC (E rfl rfl) evs0)) (bytes62 f (cutI f bs) hf1 hr.1 hr.2.1 hr.2.2) ?_
   rintro t40 S40 rfl
   refine Y1 (Yv.assign rfl eV) ?_
   refine nl ?_
   refine AW.rseq ?_
   refine Y1 (Yv.move rfl eV) ?_
   refine Y1 (Yv.move rfl eV) ?_
   refine AWL.callP rfl rfl (B rfl) rfl ce_46 (E rfl rfl) (evsC (E rfl rfl) (evsC (E rfl rfl) evs0)) (begins46 (bytesF f (cutI f bs)) bs (by omega) hbs) (fun t S h => h) ?_
   refine Y1 (Yv.assign rfl eV) ?_
   refine nl ?_
   refine AW.rseq ?_
   refine Y1 (Yv.move rfl eV) ?_
   refine Y1 (Yv.move rfl eV) ?_
   refine AWL.ygT rfl rfl rfl rfl (B rfl) (Yv.move rfl (E rfl rfl)) ?_
   refine AWL.ygT rfl rfl rfl rfl (B rfl) (Yv.lenSl rfl so_24 (B rfl) (Eg rfl rfl id) len_u8s) ?_
   refine AWL.ygT rfl rfl rfl rfl (B rfl) (Yv.move rfl (E rfl rfl)) ?_
   refine AWL.ygT rfl rfl rfl rfl (B rfl) (Yv.lenSl rfl so_24 (B rfl) (Eg rfl rfl id) len_u8s) ?_
   refine AWL.ygT rfl rfl rfl rfl (B rfl) (Yv.lss rfl (Eg rfl rfl id) (Eg rfl rfl id)) ?_
   refine Y1 (Yv.pickAnd rfl (E rfl rfl) (Eg rfl rfl id)) ?_
   refine Y1 (Yv.assign rfl eV) ?_
   refine nl ?_
   refine AW.ret (retI (.tmp rfl .nil) ?_)
   show T.v (.bool _) = T.v (.bool _)
   rw [cutF, hfit]
   simp

set_option maxHeartbeats 2000000 in
theorem refDecode18 (bs : List UInt8) (hbs : bs.length ≤ 1099511627776) :
    ACalls Tryd.prog 18 [u8s bs] [] fun t_ S => t_ = .tup [insT (decI bs), .v (.int .i64 (decN bs : Int)), .v (.int .i64 (decE bs))] := by
  have hfl : formsF.length = 59 := rfl
  refine ACalls.intro Tryd.func18 rfl Tryd.ntmps18 (Nat.le_of_ble_eq_true rfl) rfl fun X w0 => ?_
  refine AW.rseq ?_
  refine AWL.allocOp rfl rfl (B rfl) rfl zc_23 (fun b2 => ?_)
  refine Y1 (Yv.assign rfl eV) ?_
  refine Y1 (Yv.assign rfl eV) ?_
  refine nl ?_
  refine AW.rseq ?_
  refine AWL.callT rfl rfl (B rfl) rfl ce_23 (E rfl rfl) evs0 (forms50) ?_
  rintro t13 S13 rfl
  refine Y1 (Yv.assign rfl eV) ?_
  refine nl ?_
  refine AW.rseq ?_
  refine Y1 (Yv.assign rfl eV) ?_
  refine nl ?_
  refine AW.seq ?_
  refine AW.rseq ?_
  refine Y1 (Yv.assign rfl eV) ?_
  refine nl ?_
  refine AW.block ?_
  refine AW.loop (fun (j : Nat) => [(0, true, u8s bs), (2, true, .v (.pointer (some ⟨b2, 0, none⟩))), (5, true, .sl 12 (formsF.flatMap formCells)), (6, true, .v (.int .i64 (eJ bs j))), (7, true, .v (.int .i64 (j : Int)))]) (fun (j : Nat) => [.box b2 23 (insCells ⟨0, 0, 0, 0, 0, 0⟩)]) (fun (j : Nat) => j ≤ 59 ∧ ∀ k, k < j → hitF bs (formsF.getD k default) = false) (fun (j : Nat) => 59 - j) 0 ?_ ?_ ?_ ?_
  · exact ⟨Nat.zero_le _, fun i hi => by omega⟩
  · exact (Sub.cons rfl rfl (Sub.cons rfl rfl (Sub.cons rfl rfl (Sub.cons rfl rfl (Sub.cons rfl rfl Sub.nil)))))
  · rfl
  ·
   intro j hinv
   obtain ⟨hj, hpre⟩ := hinv
   refine AW.seq ?_
   refine AW.rseq ?_
   refine Y1 (Yv.move rfl eV) ?_
   refine Y1 (Yv.move rfl eV) ?_
   refine Y1 (Yv.lenSl rfl so_41 (B rfl) (E rfl rfl) len_forms) ?_
   refine Y1 (Yv.lss rfl eV eV) ?_
   refine nl ?_
   refine AW.cond rfl (fun h0t => ?_) (fun h0f => ?_)
   ·
    try replace h0t := of_decide_eq_true h0t
    refine AW.skip ?_
    refine AW.seq ?_
    refine AW.block ?_
    refine AW.rseq ?_
    refine Y1 (Yv.move rfl eV) ?_
    refine Y1 (Yv.move rfl eV) ?_
    refine Y1 (Yv.indexSl rfl ss_41 (B rfl) (E rfl rfl) (E rfl rfl) (fun hg => ⟨rfl, (by first | omega | (simp only [len_u8s, len_ints, len_forms]; omega))⟩)) ?_
    refine Y1 (Yv.loadRpA rfl ag_45 (E rfl rfl) (fun hg => form_get (by omega))) ?_
    refine Y1 (Yv.move rfl eV) ?_
    refine AWL.callT rfl rfl (B rfl) rfl ce_45 (E rfl rfl) (evsC (E rfl rfl) (evsC (E rfl rfl) evs0)) (guess45 (formsF.getD j default) bs (forms_ok _ (getD_mem' (by omega))) (forms_ok2 _ (getD_mem' (by omega))) hbs) ?_
    rintro t25 S25 rfl
    refine AWL.allocOp rfl rfl (B rfl) rfl zc_23 (fun b8 => ?_)
    refine AWL.storeBox (i := 1) rfl rfl rfl ag_23 rfl (E rfl rfl) (E rfl rfl) rfl rfl (Nat.le_of_ble_eq_true rfl) ?_
    refine nl ?_
    refine AW.eqS (S' := [.box b2 23 (insCells ⟨0, 0, 0, 0, 0, 0⟩), .box b8 23 (insCells (guessF (formsF.getD j default) bs))]) rfl ?_
    refine AW.rseqH (HeldBox b8 (insVals (guessF (formsF.getD j default) bs))) rfl (tells_box (k := 1) rfl) ?_
    refine AWH.tk (i := 0) rfl rfl rfl (B rfl) (heldAll (freeMove rfl (E rfl rfl))) ?_
    refine AWH.tk (i := 1) rfl rfl rfl (B rfl) (heldAll (freeMove rfl (E rfl rfl))) ?_
    refine AWH.tk (i := 4) rfl rfl rfl (B rfl) (heldLoadA rfl ag_23 (E rfl rfl) rfl rfl rfl rfl) ?_
    refine AWH.one (i := 2) (by kernel_rfl) rfl ?_
    refine Y1 (Yv.indexSl rfl ss_41 (B rfl) (E rfl rfl) (E rfl rfl) (fun hg => ⟨rfl, (by first | omega | (simp only [len_u8s, len_ints, len_forms]; omega))⟩)) ?_
    refine tb 1 rfl ?_
    refine AWH.one (i := 3) (by kernel_rfl) rfl ?_
    refine Y1 (Yv.loadRpA rfl ag_45 (E rfl rfl) (fun hg => form_get (by omega))) ?_
    refine tb 1 rfl ?_
    refine AWH.one (i := 5) (by kernel_rfl) rfl ?_
    refine AWL.callP rfl rfl (B rfl) rfl ce_24 (E rfl rfl) (evsC (E rfl rfl) (evsC (E rfl rfl) evs0)) (fits51 (formsF.getD j default) (guessF (formsF.getD j default) bs)) (fun t S h => h) ?_
    refine tb 1 rfl ?_
    refine AWH.one (i := 6) (by kernel_rfl) rfl ?_
    refine Y1 (Yv.assign rfl eV) ?_
    refine tb 1 rfl ?_
    refine AWH.done (by kernel_rfl) ?_
    refine AW.mid (α := Unit) (fun _ => [(0, true, u8s bs), (2, true, .v (.pointer (some ⟨b2, 0, none⟩))), (5, true, .sl 12 (formsF.flatMap formCells)), (6, true, .v (.int .i64 (eJ bs j))), (7, true, .v (.int .i64 (j : Int)))]) (fun _ => [.box b2 23 (insCells ⟨0, 0, 0, 0, 0, 0⟩), .box b8 23 (insCells (guessF (formsF.getD j default) bs))]) (fun _ => hitF bs (formsF.getD j default) = false) ?_ ?_
    ·
     refine AW.rseq ?_
     refine Y1 (Yv.move rfl eV) ?_
     refine nl ?_
     refine AW.cond rfl (fun h1t => ?_) (fun h1f => ?_)
     ·
      try replace h1t := of_decide_eq_true h1t
      have hr := fits_range h1t
      have hbl : (bytesF (formsF.getD j default) (guessF (formsF.getD j default) bs)).length ≤ 1099511627776 := by
        have h1 := sizeR_le (formsF.getD j default).imm
        have h2 := modB_len (formsF.getD j default) (guessF (formsF.getD j default) bs)
        have h3 := gC_bound (f := (formsF.getD j default)) (forms_ok _ (getD_mem' (by omega))) (forms_ok2 _ (getD_mem' (by omega)))
        rw [bytes_len]
        split <;> omega
      refine AW.rseqH (HeldBox b8 (insVals (guessF (formsF.getD j default) bs))) rfl (tells_box (k := 1) rfl) ?_
      refine AWH.tk (i := 0) rfl rfl rfl (B rfl) (heldAll (freeMove rfl (E rfl rfl))) ?_
      refine AWH.tk (i := 1) rfl rfl rfl (B rfl) (heldAll (freeMove rfl (E rfl rfl))) ?_
      refine AWH.tk (i := 4) rfl rfl rfl (B rfl) (heldLoadA rfl ag_23 (E rfl rfl) rfl rfl rfl rfl) ?_
      refine AWH.one (i := 2) (by kernel_rfl) rfl ?_
      refine Y1 (Yv.indexSl rfl ss_41 (B rfl) (E rfl rfl) (E rfl rfl) (fun hg => ⟨rfl, (by first | omega | (simp only [len_u8s, len_ints, len_forms]; omega))⟩)) ?_
      refine tb 1 rfl ?_
      refine AWH.one (i := 3) (by kernel_rfl) rfl ?_
      refine Y1 (Yv.loadRpA rfl ag_45 (E rfl rfl) (fun hg => form_get (by omega))) ?_
      refine tb 1 rfl ?_
      refine AWH.one (i := 5) (by kernel_rfl) rfl ?_
      refine AWL.callT rfl rfl (B rfl) rfl ce_25 (E rfl rfl) (evsC (E rfl rfl) (evsC (E rfl rfl) evs0)) (bytes62 (formsF.getD j default) (guessF (formsF.getD j default) bs) (forms_ok _ (getD_mem' (by omega))) hr.1 hr.2.1 hr.2.2) ?_
      rintro t38 S38 rfl
      refine tb 1 rfl ?_
      refine AWH.one (i := 6) (by kernel_rfl) rfl ?_
      refine Y1 (Yv.assign rfl eV) ?_
      refine tb 1 rfl ?_
      refine AWH.done (by kernel_rfl) ?_
      refine AW.rseq ?_
      refine Y1 (Yv.move rfl eV) ?_
      refine Y1 (Yv.move rfl eV) ?_
      refine AWL.callP rfl rfl (B rfl) rfl ce_46 (E rfl rfl) (evsC (E rfl rfl) (evsC (E rfl rfl) evs0)) (begins46 bs (bytesF (formsF.getD j default) (guessF (formsF.getD j default) bs)) hbs hbl) (fun t S h => h) ?_
      refine Y1 (Yv.assign rfl eV) ?_
      refine nl ?_
      refine AW.rseq ?_
      refine Y1 (Yv.move rfl eV) ?_
      refine nl ?_
      refine AW.cond rfl (fun h2t => ?_) (fun h2f => ?_)
      ·
       try replace h2t := of_decide_eq_true h2t
       have h2u : begF bs (bytesF (formsF.getD j default) (guessF (formsF.getD j default) bs)) = true := decide_eq_true h2t
       refine AW.rseq ?_
       refine Y1 (Yv.loadBoxA rfl ag_23 (i := 1) rfl (E rfl rfl) rfl rfl) ?_
       refine Y1 (Yv.move rfl eV) ?_
       refine Y1 (Yv.lenSl rfl so_24 (B rfl) (E rfl rfl) len_u8s) ?_
       refine AWL.storeBox (i := 0) rfl rfl rfl ag_23 rfl (E rfl rfl) (E rfl rfl) rfl rfl (Nat.le_of_ble_eq_true rfl) ?_
       refine Y1 (Yv.assign rfl eV) ?_
       refine Y1 (Yv.assign rfl eV) ?_
       refine nl ?_
       refine AW.ret (retI (.cellA (i := 0) rfl ag_23 rfl rfl rfl (.tmp rfl (.tmp rfl .nil))) ?_)
       obtain ⟨ha, hb, hc⟩ := ref_hit (bs := bs) (j := j) (by omega) (is_hit h1t h2u)
       rw [← ha, ← hb, hc]
       rfl
      try replace h2f := of_decide_eq_false h2f
      have h2u : begF bs (bytesF (formsF.getD j default) (guessF (formsF.getD j default) bs)) = false := decide_eq_false h2f
      have hnh := no_hit2 h2u
      refine AW.skip ?_
      refine ⟨(), hnh, (Sub.cons rfl rfl (Sub.cons rfl rfl (Sub.cons rfl rfl (Sub.cons rfl rfl (Sub.cons rfl rfl Sub.nil))))), rfl⟩
     try replace h1f := of_decide_eq_false h1f
     have hnh := no_hit1 h1f
     refine AW.skip ?_
     refine ⟨(), hnh, (Sub.cons rfl rfl (Sub.cons rfl rfl (Sub.cons rfl rfl (Sub.cons rfl rfl (Sub.cons rfl rfl Sub.nil))))), rfl⟩
    ·
     rintro _ hnh
     refine AW.rseq ?_
     refine Y1 (Yv.move rfl eV) ?_
     refine Y1 (Yv.move rfl eV) ?_
     refine Y1 (Yv.indexSl rfl ss_41 (B rfl) (E rfl rfl) (E rfl rfl) (fun hg => ⟨rfl, (by first | omega | (simp only [len_u8s, len_ints, len_forms]; omega))⟩)) ?_
     refine Y1 (Yv.loadRpA rfl ag_45 (E rfl rfl) (fun hg => form_get (by omega))) ?_
     refine Y1 (Yv.move rfl eV) ?_
     refine AWL.callP rfl rfl (B rfl) rfl ce_47 (E rfl rfl) (evsC (E rfl rfl) (evsC (E rfl rfl) evs0)) (cut47 (formsF.getD j default) bs (getD_mem' (by omega)) hbs) (fun t S h => h) ?_
     refine Y1 (Yv.assign rfl eV) ?_
     refine nl ?_
     refine AW.rseq ?_
     refine Y1 (Yv.move rfl eV) ?_
     refine nl ?_
     refine AW.cond rfl (fun h3t => ?_) (fun h3f => ?_)
     ·
      try replace h3t := of_decide_eq_true h3t
      have hej := eJ_yes (bs := bs) (j := j) (by omega) h3t
      refine AW.region ?_
      refine Y1 (Yv.assign rfl eV) ?_
      refine nl ?_
      refine AW.dropAt 1 ?_
      refine AW.region ?_
      refine Y1 (Yv.move rfl eV) ?_
      refine Y1 (Yv.addN_i64 rfl (E rfl rfl) (E rfl rfl) (fun hg => by omega)) ?_
      refine Y1 (Yv.assign rfl eV) ?_
      refine nl ?_
      refine ⟨j + 1, ⟨by omega, fun k hk => ?_⟩, by omega, Sub.cons rfl rfl (Sub.cons rfl rfl (Sub.cons rfl rfl (Sub.cons rfl (by rw [hej]; rfl) (Sub.cons rfl (by simp) Sub.nil)))), rfl⟩
      rcases Nat.lt_or_ge k j with h | h
      · exact hpre k h
      · rw [show k = j by omega]; exact hnh
     try replace h3f := of_decide_eq_false h3f
     have hej := eJ_no (bs := bs) (j := j) (by omega) h3f
     refine AW.skip ?_
     refine AW.dropAt 1 ?_
     refine AW.region ?_
     refine Y1 (Yv.move rfl eV) ?_
     refine Y1 (Yv.addN_i64 rfl (E rfl rfl) (E rfl rfl) (fun hg => by omega)) ?_
     refine Y1 (Yv.assign rfl eV) ?_
     refine nl ?_
     refine ⟨j + 1, ⟨by omega, fun k hk => ?_⟩, by omega, Sub.cons rfl rfl (Sub.cons rfl rfl (Sub.cons rfl rfl (Sub.cons rfl (by rw [hej]) (Sub.cons rfl (by simp) Sub.nil)))), rfl⟩
     rcases Nat.lt_or_ge k j with h | h
     · exact hpre k h
     · rw [show k = j by omega]; exact hnh
   try replace h0f := of_decide_eq_false h0f
   refine AW.exit ?_
   refine AW.rseq ?_
   refine Y1 (Yv.buildS rfl sh_23 evp0 (fun _ => rfl)) ?_
   refine Y1 (Yv.move rfl eV) ?_
   refine AWL.storeBox (i := 0) rfl rfl rfl ag_23 rfl (E rfl rfl) (E rfl rfl) rfl rfl (Nat.le_of_ble_eq_true rfl) ?_
   refine Y1 (Yv.assign rfl eV) ?_
   refine Y1 (Yv.assign rfl eV) ?_
   refine nl ?_
   refine AW.ret (retI (.cellA (i := 0) rfl ag_23 rfl rfl rfl (.tmp rfl (.tmp rfl .nil))) ?_)
   obtain ⟨ha, hb, hc⟩ := ref_end (bs := bs) (fun k hk => hpre k (by omega))
   rw [ha, hb, hc, ← eJ_all, show j = 59 by omega]
   rfl

end Go.Proofs.YtjndpakhmgapjaaDoor

namespace Go.Proofs.YtjndpakhmgapjaaDoor
open Go Go.RowKit
set_option linter.unusedSimpArgs false
set_option linter.unusedVariables false
set_option linter.unnecessarySimpa false
def lstN : Nat → List UInt8 → List Ins × Int
  | 0, _ => ([], 0)
  | n + 1, bs => if bs = [] then ([], 0) else if decE bs = 0 then (if (lstN n (bs.drop (decN bs))).2 = 0 then (decI bs :: (lstN n (bs.drop (decN bs))).1, 0) else ([], (lstN n (bs.drop (decN bs))).2)) else ([], decE bs)
theorem decN_pos {bs : List UInt8} (h : decE bs = 0) : 0 < decN bs := by
  obtain ⟨hv, hi, he, hz, hle⟩ := reads h
  have := enc_pos hv hi
  omega
theorem lstN_more : ∀ (n m : Nat) (bs : List UInt8), bs.length ≤ n → n ≤ m → lstN n bs = lstN m bs
  | 0, 0, _, _, _ => rfl
  | 0, m + 1, bs, h, _ => by
    have : bs = [] := List.length_eq_zero_iff.1 (by omega)
    rw [lstN, lstN, if_pos this]
  | n + 1, 0, _, _, h => absurd h (by omega)
  | n + 1, m + 1, bs, h, hm => by
    unfold lstN
    by_cases h0 : bs = []
    · rw [if_pos h0, if_pos h0]
    · rw [if_neg h0, if_neg h0]
      by_cases h1 : decE bs = 0
      · have hp := decN_pos h1
        have hb : 0 < bs.length := List.length_pos_iff.2 h0
        rw [if_pos h1, if_pos h1, lstN_more n m (bs.drop (decN bs)) (by rw [List.length_drop]; omega) (by omega)]
      · rw [if_neg h1, if_neg h1]
/-- The instructions of bytes, and the fault. -/
def lst (bs : List UInt8) : List Ins × Int := lstN bs.length bs
theorem lst_nil : lst [] = ([], 0) := rfl
theorem lst_bad {bs : List UInt8} (h0 : 0 < bs.length) (h : ¬ decE bs = 0) : lst bs = ([], decE bs) := by
  unfold lst
  obtain ⟨n, hn⟩ : ∃ n, bs.length = n + 1 := ⟨bs.length - 1, by omega⟩
  rw [hn, lstN, if_neg (List.length_pos_iff.1 h0), if_neg h]
theorem lst_good {bs : List UInt8} (h0 : 0 < bs.length) (h : decE bs = 0) : lst bs = if (lst (bs.drop (decN bs))).2 = 0 then (decI bs :: (lst (bs.drop (decN bs))).1, 0) else ([], (lst (bs.drop (decN bs))).2) := by
  have hp := decN_pos h
  have e : lst (bs.drop (decN bs)) = lstN (bs.length - 1) (bs.drop (decN bs)) := by
    unfold lst
    exact lstN_more _ _ _ (Nat.le_refl _) (by rw [List.length_drop]; omega)
  rw [e]
  unfold lst
  obtain ⟨n, hn⟩ : ∃ n, bs.length = n + 1 := ⟨bs.length - 1, by omega⟩
  rw [hn, lstN, if_neg (List.length_pos_iff.1 h0), if_pos h]
  rfl
/-- So far, and what is left. -/
def LI (bs : List UInt8) (out : List Ins) (rest : List UInt8) : Prop := lst bs = (if (lst rest).2 = 0 then (out ++ (lst rest).1, 0) else ([], (lst rest).2)) ∧ out.length + rest.length ≤ bs.length
theorem LI.start (bs : List UInt8) (h : (lst bs).2 = 0 ∨ (lst bs).1 = []) : LI bs [] bs := by
  refine ⟨?_, by simp⟩
  by_cases h0 : (lst bs).2 = 0
  · rw [if_pos h0, List.nil_append, ← h0]
  · rw [if_neg h0, ← h.resolve_left h0]
theorem lstN_or : ∀ n bs, (lstN n bs).2 = 0 ∨ (lstN n bs).1 = []
  | 0, _ => .inl rfl
  | n + 1, bs => by
    unfold lstN
    split
    · exact .inl rfl
    split
    · split
      · exact .inl rfl
      · exact .inr rfl
    · exact .inr rfl
theorem lst_or (bs : List UInt8) : (lst bs).2 = 0 ∨ (lst bs).1 = [] := lstN_or _ _
theorem LI.done {bs : List UInt8} {out : List Ins} {rest : List UInt8} (h : LI bs out rest) (hr : rest.length = 0) : lst bs = (out, 0) := by
  rw [List.length_eq_zero_iff] at hr
  subst hr
  rw [h.1, lst_nil, if_pos rfl, List.append_nil]
theorem LI.bad {bs : List UInt8} {out : List Ins} {rest : List UInt8} (h : LI bs out rest) (hr : 0 < rest.length) (he : ¬ decE rest = 0) : lst bs = ([], decE rest) := by
  rw [h.1, lst_bad hr he, if_neg he]
theorem LI.step {bs : List UInt8} {out : List Ins} {rest : List UInt8} (h : LI bs out rest) (hr : 0 < rest.length) (he : decE rest = 0) : LI bs (out ++ [decI rest]) (rest.drop (decN rest)) := by
  have hp := decN_pos he
  refine ⟨?_, by
    have h2 := h.2
    rw [List.length_append, List.length_drop]
    show out.length + 1 + _ ≤ _
    omega⟩
  rw [h.1, lst_good hr he]
  by_cases h0 : (lst (rest.drop (decN rest))).2 = 0
  · rw [if_pos h0, if_pos rfl, if_pos h0, List.append_assoc]
    rfl
  · rw [if_neg h0, if_neg h0, if_neg h0]
theorem lstN_back : ∀ (n : Nat) (bs : List UInt8), bs.length ≤ n → (lstN n bs).2 = 0 → Good (lstN n bs).1 ∧ (lstN n bs).1.flatMap encF = bs ∧ (lstN n bs).1.length ≤ bs.length
  | 0, bs, h, _ => by
    obtain rfl : bs = [] := List.length_eq_zero_iff.1 (by omega)
    exact ⟨⟨fun x hx => absurd hx (by simp [lstN]), fun x hx => absurd hx (by simp [lstN])⟩, rfl, Nat.le_refl _⟩
  | n + 1, bs, h, h2 => by
    unfold lstN at h2 ⊢
    by_cases h0 : bs = []
    · subst h0
      rw [if_pos rfl]
      exact ⟨⟨fun x hx => absurd hx (by simp), fun x hx => absurd hx (by simp)⟩, rfl, Nat.le_refl _⟩
    · rw [if_neg h0] at h2 ⊢
      by_cases h1 : decE bs = 0
      · rw [if_pos h1] at h2 ⊢
        obtain ⟨hv, hi, he, hz, hle⟩ := reads h1
        have hp := decN_pos h1
        by_cases h3 : (lstN n (bs.drop (decN bs))).2 = 0
        · rw [if_pos h3]
          obtain ⟨g1, g2, g3⟩ := lstN_back n (bs.drop (decN bs)) (by rw [List.length_drop]; omega) h3
          rw [List.length_drop] at g3
          refine ⟨⟨fun x hx => ?_, fun x hx => ?_⟩, ?_, ?_⟩
          · rcases List.mem_cons.1 hx with rfl | hx
            · exact hv
            · exact g1.valid x hx
          · rcases List.mem_cons.1 hx with rfl | hx
            · exact hi
            · exact g1.imm x hx
          · show encF (decI bs) ++ (lstN n (bs.drop (decN bs))).1.flatMap encF = bs
            rw [he, g2, List.take_append_drop]
          · show (lstN n (bs.drop (decN bs))).1.length + 1 ≤ bs.length
            omega
        · rw [if_neg h3] at h2
          exact absurd h2 h3
      · rw [if_neg h1] at h2
        exact absurd h2 h1
theorem lst_back {bs : List UInt8} (h : (lst bs).2 = 0) : Good (lst bs).1 ∧ (lst bs).1.flatMap encF = bs ∧ (lst bs).1.length ≤ bs.length := lstN_back _ _ (Nat.le_refl _) h
end Go.Proofs.YtjndpakhmgapjaaDoor

namespace Go.Proofs.YtjndpakhmgapjaaDoor
open Go Go.RowKit
set_option linter.unusedVariables false
set_option linter.unnecessarySimpa false
set_option linter.unusedSimpArgs false

theorem encode19_ (i : Ins) : ACalls Tryd.prog 11 [insT i] [] (fun t_ S => t_ = .tup [encT i, .v (.int .i64 (encE i))]) := by
  have h : (fun t_ S => t_ = if validF i = true then .tup [u8s (encF i), .v (.int .i64 0)] else .tup [ofConst (.slice none 0 0), .v (.int .i64 200)]) = (fun (t_ : T) (S : St) => t_ = .tup [encT i, .v (.int .i64 (encE i))]) := by
    funext t S
    unfold encT encE
    split <;> rfl
  rw [← h]
  exact encode19 i
set_option maxHeartbeats 1000000 in
theorem all20 (l : List Ins) (hl : l.length ≤ NL) :
    ACalls Tryd.prog 20 [inssT l] [] (fun t_ S => t_ = .tup [u8s (allB l), .v (.int .i64 (allE l))]) := by
  have hnl : l.length ≤ 1099511627 := hl
  refine ACalls.intro Tryd.func20 rfl Tryd.ntmps20 (Nat.le_of_ble_eq_true rfl) rfl fun X w0 => ?_
  refine AW.rseq ?_
  refine Y1 (Yv.assign rfl eV) ?_
  refine Y1 (Yv.assign rfl eV) ?_
  refine nl ?_
  refine AW.rseq ?_
  refine Y1 (Yv.assign rfl eV) ?_
  refine nl ?_
  refine AW.rowNil 5 1 ?_
  refine AW.seq ?_
  refine AW.rseq ?_
  refine Y1 (Yv.move rfl eV) ?_
  refine Y1 (Yv.lenSl rfl so_36 (B rfl) (E rfl rfl) len_inss) ?_
  refine Y1 (Yv.move rfl eV) ?_
  refine nl ?_
  refine AW.block ?_
  refine AW.loop3 (fun (j : Nat) (Ao : Option Addr) (co : Nat) => [(0, true, inssT l), (4, true, .v (.slice Ao ((l.take j).flatMap encF).length co)), (9, true, inssT l), (10, true, .v (.int .i64 (l.length : Int))), (11, true, .v (.int .i64 (j : Int)))]) (fun (j : Nat) (Ao : Option Addr) (co : Nat) => [.row Ao ((l.take j).flatMap encF).length co 5 1 (((l.take j).flatMap encF).map u8)]) (fun (j : Nat) (Ao : Option Addr) (co : Nat) => j ≤ l.length ∧ ∀ i, i < j → validF (l.getD i default) = true) (fun (j : Nat) (Ao : Option Addr) (co : Nat) => l.length - j) 0 none 0 ?_ ?_ ?_ ?_
  · exact ⟨Nat.zero_le _, fun i hi => by omega⟩
  · exact (Sub.cons rfl rfl (Sub.cons rfl rfl (Sub.cons rfl rfl (Sub.cons rfl rfl (Sub.cons rfl rfl Sub.nil)))))
  · rfl
  ·
   intro j Ao co hinv
   obtain ⟨hj, hpre⟩ := hinv
   have hb1 := enc_le (l.take j)
   have hb2 := List.length_take_le j l
   have hb3 := encF_len (l.getD j default)
   refine AW.rseq ?_
   refine Y1 (Yv.lss rfl eV eV) ?_
   refine nl ?_
   refine AW.seq ?_
   refine AW.cond rfl (fun h0t => ?_) (fun h0f => ?_)
   ·
    try replace h0t := of_decide_eq_true h0t
    refine AW.skip ?_
    refine AW.seq ?_
    refine AW.block ?_
    refine AW.rseq ?_
    refine Y1 (Yv.indexSl rfl ss_36 (B rfl) (E rfl rfl) (E rfl rfl) (fun hg => ⟨rfl, (by first | omega | (simp only [len_inss, len_u8s, len_ints]; omega))⟩)) ?_
    refine Y1 (Yv.loadRpA rfl ag_23 (E rfl rfl) (fun hg => ins_get (by omega))) ?_
    refine AWL.allocOp rfl rfl (B rfl) rfl zc_23 (fun b6 => ?_)
    refine AWL.storeBox (i := 1) rfl rfl rfl ag_23 rfl (E rfl rfl) (E rfl rfl) rfl rfl (Nat.le_of_ble_eq_true rfl) ?_
    refine nl ?_
    refine AW.rseq ?_
    refine Y1 (Yv.loadBoxA rfl ag_23 (i := 1) rfl (E rfl rfl) rfl rfl) ?_
    refine AWL.callT rfl rfl (B rfl) rfl ce_11 (E rfl rfl) (evsC (E rfl rfl) evs0) (encode19_ (l.getD j default)) ?_
    rintro t17 S17 rfl
    refine Y1 (Yv.move rfl eV) ?_
    refine Y1 (Yv.extract rfl eV rfl) ?_
    refine Y1 (Yv.extract rfl eV rfl) ?_
    refine Y1 (Yv.assign rfl eV) ?_
    refine Y1 (Yv.assign rfl eV) ?_
    refine nl ?_
    refine AW.seq ?_
    refine AW.rseq ?_
    refine Y1 (Yv.move rfl eV) ?_
    refine Y1 (Yv.neq rfl eV eV) ?_
    refine nl ?_
    refine AW.cond rfl (fun h1t => ?_) (fun h1f => ?_)
    ·
     try replace h1t := of_decide_eq_true h1t
     have hvj : ¬ validF (l.getD j default) = true := by rw [encE] at h1t; intro q; rw [if_pos q] at h1t; exact absurd h1t (by decide)
     refine AW.rseq ?_
     refine Y1 (Yv.move rfl eV) ?_
     refine Y1 (Yv.assign rfl eV) ?_
     refine Y1 (Yv.assign rfl eV) ?_
     refine nl ?_
     refine AW.retype (k := 2) (t' := u8s []) rfl (nil_sl (by decide)) ?_
     refine AW.ret (retI (.tmp rfl (.tmp rfl .nil)) ?_)
     rw [allB, allE, if_neg (all_bad (by omega) hvj), if_neg (all_bad (by omega) hvj), encE, if_neg hvj]
     rfl
    try replace h1f := of_decide_eq_false h1f
    have hvj : validF (l.getD j default) = true := by rw [encE] at h1f; by_cases q : validF (l.getD j default) = true; exact q; rw [if_neg q] at h1f; exact absurd h1f (by decide)
    refine AW.skip ?_
    rw [show encT (l.getD j default) = u8s (encF (l.getD j default)) from if_pos hvj]
    refine AW.region ?_
    refine Y1 (Yv.move rfl eV) ?_
    refine Y1 (Yv.move rfl eV) ?_
    refine AWL.appendRow (i := 0) rfl rfl (B rfl) rfl el_24 (B rfl) rfl (E rfl rfl) (SrcT.sl so_24 (B rfl) (E rfl rfl) len_u8s) (by unfold maxLen; omega) (by omega) (fun A25 c25 => ?_)
    refine Y1 (Yv.assign rfl eV) ?_
    refine nl ?_
    refine AW.dropAt 1 ?_
    refine AW.region ?_
    refine Y1 (Yv.addN_i64 rfl (E rfl rfl) (E rfl rfl) (fun hg => by omega)) ?_
    refine Y1 (Yv.move rfl eV) ?_
    refine nl ?_
    obtain ⟨heL, heC⟩ := enc_step (l := l) (j := j) (by omega)
    refine ⟨j + 1, A25, c25, ⟨by omega, fun i hi => ?_⟩, by omega, Sub.cons rfl rfl (Sub.cons rfl (by rw [heL]) (Sub.cons rfl rfl (Sub.cons rfl rfl (Sub.cons rfl (by simp) Sub.nil)))), ?_⟩
    · rcases Nat.lt_or_ge i j with h | h
      · exact hpre i h
      · rw [show i = j by omega]; exact hvj
    rw [heL, heC]
    rfl
   try replace h0f := of_decide_eq_false h0f
   refine AW.exit ?_
   obtain rfl : j = l.length := by omega
   rw [List.take_length]
   refine AW.freeze 0 4 rfl (B rfl) rfl ?_
   refine AW.rseq ?_
   refine Y1 (Yv.move rfl eV) ?_
   refine Y1 (Yv.assign rfl eV) ?_
   refine Y1 (Yv.assign rfl eV) ?_
   refine nl ?_
   refine AW.ret (retI (.tmp rfl (.tmp rfl .nil)) ?_)
   rw [allB, allE, if_pos (all_good (fun i hi => hpre i (by omega))), if_pos (all_good (fun i hi => hpre i (by omega)))]
   rfl

set_option maxHeartbeats 1000000 in
theorem list22 (bs : List UInt8) (hl : bs.length ≤ 1099511627) :
    ACalls Tryd.prog 22 [u8s bs] [] (fun t_ S => t_ = .tup [inssT (lst bs).1, .v (.int .i64 (lst bs).2)]) := by
  refine ACalls.intro Tryd.func22 rfl Tryd.ntmps22 (Nat.le_of_ble_eq_true rfl) rfl fun X w0 => ?_
  refine AW.rseq ?_
  refine Y1 (Yv.assign rfl eV) ?_
  refine Y1 (Yv.assign rfl eV) ?_
  refine nl ?_
  refine AW.rseq ?_
  refine Y1 (Yv.assign rfl eV) ?_
  refine nl ?_
  refine AW.rowNil 23 6 ?_
  refine AW.seq ?_
  refine AW.block ?_
  refine AW.loop4 (fun (out : List Ins) (rest : List UInt8) (Ao : Option Addr) (co : Nat) => [(0, true, u8s rest), (4, true, .v (.slice Ao out.length co))]) (fun (out : List Ins) (rest : List UInt8) (Ao : Option Addr) (co : Nat) => [.row Ao out.length co 23 6 (out.flatMap insCells)]) (fun (out : List Ins) (rest : List UInt8) (Ao : Option Addr) (co : Nat) => LI bs out rest) (fun (out : List Ins) (rest : List UInt8) (Ao : Option Addr) (co : Nat) => rest.length) ([]) bs none 0 ?_ ?_ ?_ ?_
  · exact LI.start bs (lst_or bs)
  · exact (Sub.cons rfl rfl (Sub.cons rfl rfl Sub.nil))
  · rfl
  ·
   intro out rest Ao co hinv
   have hli := hinv
   refine AW.seq ?_
   refine AW.rseq ?_
   refine Y1 (Yv.move rfl eV) ?_
   refine Y1 (Yv.lenSl rfl so_24 (B rfl) (E rfl rfl) len_u8s) ?_
   refine Y1 (Yv.gtr rfl eV eV) ?_
   refine nl ?_
   refine AW.cond rfl (fun h0t => ?_) (fun h0f => ?_)
   ·
    try replace h0t := of_decide_eq_true h0t
    have hr : 0 < rest.length := by simpa using h0t
    refine AW.skip ?_
    refine AW.block ?_
    refine AW.rseq ?_
    refine Y1 (Yv.move rfl eV) ?_
    refine AWL.callT rfl rfl (B rfl) rfl ce_17 (E rfl rfl) (evsC (E rfl rfl) evs0) (Decode42 rest (by have := hli.2; omega)) ?_
    rintro t13 S13 rfl
    refine Y1 (Yv.move rfl eV) ?_
    refine Y1 (Yv.extract rfl eV rfl) ?_
    refine Y1 (Yv.extract rfl eV rfl) ?_
    refine Y1 (Yv.extract rfl eV rfl) ?_
    refine AWL.allocOp rfl rfl (B rfl) rfl zc_23 (fun b5 => ?_)
    refine AWL.storeBox (i := 1) rfl rfl rfl ag_23 rfl (E rfl rfl) (E rfl rfl) rfl rfl (Nat.le_of_ble_eq_true rfl) ?_
    refine Y1 (Yv.assign rfl eV) ?_
    refine Y1 (Yv.assign rfl eV) ?_
    refine nl ?_
    refine AW.seq ?_
    refine AW.rseq ?_
    refine Y1 (Yv.move rfl eV) ?_
    refine Y1 (Yv.neq rfl eV eV) ?_
    refine nl ?_
    refine AW.cond rfl (fun h1t => ?_) (fun h1f => ?_)
    ·
     try replace h1t := of_decide_eq_true h1t
     have hne : ¬ decE rest = 0 := by simpa using h1t
     have hbd := hli.bad hr hne
     refine AW.rseq ?_
     refine Y1 (Yv.move rfl eV) ?_
     refine Y1 (Yv.assign rfl eV) ?_
     refine Y1 (Yv.assign rfl eV) ?_
     refine nl ?_
     refine AW.retype (k := 2) (t' := inssT []) rfl (nil_sl (by decide)) ?_
     refine AW.ret (retI (.tmp rfl (.tmp rfl .nil)) ?_)
     rw [hbd]
     rfl
    try replace h1f := of_decide_eq_false h1f
    have hde : decE rest = 0 := by simpa using h1f
    have hp := decN_pos hde
    obtain ⟨_, _, _, _, hle⟩ := reads hde
    have hst := hli.step hr hde
    have hli2 := hli.2
    refine AW.skip ?_
    refine AW.rseq ?_
    refine Y1 (Yv.move rfl eV) ?_
    refine Y1 (Yv.loadBoxA rfl ag_23 (i := 1) rfl (E rfl rfl) rfl rfl) ?_
    refine AWL.buildSliceE rfl rfl (B rfl) rfl el_36 (B rfl) rfl (evsC (E rfl rfl) evs0) (Nat.le_of_ble_eq_true rfl) rfl rfl ?_
    refine AWL.appendRow (i := 0) rfl rfl (B rfl) rfl el_36 (B rfl) rfl (E rfl rfl) (SrcT.sl so_36 (B rfl) (E rfl rfl) rfl) (by unfold maxLen; omega) (by omega) (fun A23 c23 => ?_)
    refine Y1 (Yv.assign rfl eV) ?_
    refine nl ?_
    refine AW.dropAt 1 ?_
    refine AW.region ?_
    refine Y1 (Yv.move rfl eV) ?_
    refine Y1 (Yv.move rfl eV) ?_
    refine Y1 (Yv.sliceMap rfl ss_24 (E rfl rfl) (Bound.some_ (E rfl rfl) (fun hg => rfl)) Bound.none_ (fun hg => ⟨by omega, by omega⟩)) ?_
    refine Y1 (Yv.assign rfl eV) ?_
    refine nl ?_
    refine ⟨out ++ [decI rest], rest.drop (decN rest), A23, c23, hst, by rw [List.length_drop]; omega, Sub.cons rfl (by rw [take_rest]; rfl) (Sub.cons rfl (by rw [List.length_append]; rfl) Sub.nil), ?_⟩
    rw [List.flatMap_append, List.length_append]
    simp
    rfl
   try replace h0f := of_decide_eq_false h0f
   have hr : ¬ 0 < rest.length := by simpa using h0f
   refine AW.exit ?_
   have hdn := hli.done (by omega)
   refine AW.freeze 0 4 rfl (B rfl) rfl ?_
   refine AW.rseq ?_
   refine Y1 (Yv.move rfl eV) ?_
   refine Y1 (Yv.assign rfl eV) ?_
   refine Y1 (Yv.assign rfl eV) ?_
   refine nl ?_
   refine AW.ret (retI (.tmp rfl (.tmp rfl .nil)) ?_)
   rw [hdn]
   rfl

end Go.Proofs.YtjndpakhmgapjaaDoor

namespace Go.Proofs.YtjndpakhmgapjaaDoor
open Go Go.RowKit
set_option linter.unusedVariables false
set_option linter.unnecessarySimpa false
set_option linter.unusedSimpArgs false

set_option maxHeartbeats 1000000 in
theorem refList21 (bs : List UInt8) (hl : bs.length ≤ 1099511627) :
    ACalls Tryd.prog 21 [u8s bs] [] (fun t_ S => t_ = .tup [inssT (lst bs).1, .v (.int .i64 (lst bs).2)]) := by
  refine ACalls.intro Tryd.func21 rfl Tryd.ntmps21 (Nat.le_of_ble_eq_true rfl) rfl fun X w0 => ?_
  refine AW.rseq ?_
  refine Y1 (Yv.assign rfl eV) ?_
  refine Y1 (Yv.assign rfl eV) ?_
  refine nl ?_
  refine AW.rseq ?_
  refine Y1 (Yv.assign rfl eV) ?_
  refine nl ?_
  refine AW.rowNil 23 6 ?_
  refine AW.seq ?_
  refine AW.rseq ?_
  refine Y1 (Yv.assign rfl eV) ?_
  refine nl ?_
  refine AW.block ?_
  refine AW.loop4 (fun (out : List Ins) (a : Nat) (Ao : Option Addr) (co : Nat) => [(0, true, u8s bs), (4, true, .v (.slice Ao out.length co)), (5, true, .v (.int .i64 (a : Int)))]) (fun (out : List Ins) (a : Nat) (Ao : Option Addr) (co : Nat) => [.row Ao out.length co 23 6 (out.flatMap insCells)]) (fun (out : List Ins) (a : Nat) (Ao : Option Addr) (co : Nat) => LI bs out (bs.drop a) ∧ a ≤ bs.length) (fun (out : List Ins) (a : Nat) (Ao : Option Addr) (co : Nat) => bs.length - a) ([]) 0 none 0 ?_ ?_ ?_ ?_
  · exact ⟨LI.start bs (lst_or bs), Nat.zero_le _⟩
  · exact (Sub.cons rfl rfl (Sub.cons rfl rfl (Sub.cons rfl rfl Sub.nil)))
  · rfl
  ·
   intro out a Ao co hinv
   obtain ⟨hli, hal⟩ := hinv
   refine AW.seq ?_
   refine AW.rseq ?_
   refine Y1 (Yv.move rfl eV) ?_
   refine Y1 (Yv.move rfl eV) ?_
   refine Y1 (Yv.lenSl rfl so_24 (B rfl) (E rfl rfl) len_u8s) ?_
   refine Y1 (Yv.lss rfl eV eV) ?_
   refine nl ?_
   refine AW.cond rfl (fun h0t => ?_) (fun h0f => ?_)
   ·
    try replace h0t := of_decide_eq_true h0t
    have hr : 0 < (bs.drop a).length := by rw [List.length_drop]; omega
    refine AW.skip ?_
    refine AW.block ?_
    refine AW.rseq ?_
    refine Y1 (Yv.move rfl eV) ?_
    refine Y1 (Yv.move rfl eV) ?_
    refine Y1 (Yv.sliceMap rfl ss_24 (E rfl rfl) (Bound.some_ (E rfl rfl) (fun hg => rfl)) Bound.none_ (fun hg => ⟨by omega, by omega⟩)) ?_
    rw [show (bs.drop a).take (bs.length - a) = (bs.drop a) from List.take_of_length_le (by rw [List.length_drop]; omega)]
    refine AWL.callT rfl rfl (B rfl) rfl ce_18 (E rfl rfl) (evsC (E rfl rfl) evs0) (refDecode18 (bs.drop a) (by rw [List.length_drop]; omega)) ?_
    rintro t17 S17 rfl
    refine Y1 (Yv.move rfl eV) ?_
    refine Y1 (Yv.extract rfl eV rfl) ?_
    refine Y1 (Yv.extract rfl eV rfl) ?_
    refine Y1 (Yv.extract rfl eV rfl) ?_
    refine AWL.allocOp rfl rfl (B rfl) rfl zc_23 (fun b6 => ?_)
    refine AWL.storeBox (i := 1) rfl rfl rfl ag_23 rfl (E rfl rfl) (E rfl rfl) rfl rfl (Nat.le_of_ble_eq_true rfl) ?_
    refine Y1 (Yv.assign rfl eV) ?_
    refine Y1 (Yv.assign rfl eV) ?_
    refine nl ?_
    refine AW.seq ?_
    refine AW.rseq ?_
    refine Y1 (Yv.move rfl eV) ?_
    refine Y1 (Yv.neq rfl eV eV) ?_
    refine nl ?_
    refine AW.cond rfl (fun h1t => ?_) (fun h1f => ?_)
    ·
     try replace h1t := of_decide_eq_true h1t
     have hne : ¬ decE (bs.drop a) = 0 := by simpa using h1t
     have hbd := hli.bad hr hne
     refine AW.rseq ?_
     refine Y1 (Yv.move rfl eV) ?_
     refine Y1 (Yv.assign rfl eV) ?_
     refine Y1 (Yv.assign rfl eV) ?_
     refine nl ?_
     refine AW.retype (k := 2) (t' := inssT []) rfl (nil_sl (by decide)) ?_
     refine AW.ret (retI (.tmp rfl (.tmp rfl .nil)) ?_)
     rw [hbd]
     rfl
    try replace h1f := of_decide_eq_false h1f
    have hde : decE (bs.drop a) = 0 := by simpa using h1f
    have hp := decN_pos hde
    obtain ⟨_, _, _, _, hle⟩ := reads hde
    have hst := hli.step hr hde
    rw [List.length_drop] at hle
    have hli2 := hli.2
    rw [List.length_drop] at hli2
    refine AW.skip ?_
    refine AW.rseq ?_
    refine Y1 (Yv.move rfl eV) ?_
    refine Y1 (Yv.loadBoxA rfl ag_23 (i := 1) rfl (E rfl rfl) rfl rfl) ?_
    refine AWL.buildSliceE rfl rfl (B rfl) rfl el_36 (B rfl) rfl (evsC (E rfl rfl) evs0) (Nat.le_of_ble_eq_true rfl) rfl rfl ?_
    refine AWL.appendRow (i := 0) rfl rfl (B rfl) rfl el_36 (B rfl) rfl (E rfl rfl) (SrcT.sl so_36 (B rfl) (E rfl rfl) rfl) (by unfold maxLen; omega) (by omega) (fun A27 c27 => ?_)
    refine Y1 (Yv.assign rfl eV) ?_
    refine nl ?_
    refine AW.dropAt 1 ?_
    refine AW.region ?_
    refine Y1 (Yv.move rfl eV) ?_
    refine Y1 (Yv.move rfl eV) ?_
    refine Y1 (Yv.addN_i64 rfl (E rfl rfl) (E rfl rfl) (fun hg => by omega)) ?_
    refine Y1 (Yv.assign rfl eV) ?_
    refine nl ?_
    refine ⟨out ++ [decI (bs.drop a)], a + decN (bs.drop a), A27, c27, ⟨by rw [← List.drop_drop]; exact hst, by omega⟩, by omega, Sub.cons rfl rfl (Sub.cons rfl (by rw [List.length_append]; rfl) (Sub.cons rfl (by simp) Sub.nil)), ?_⟩
    rw [List.flatMap_append, List.length_append]
    simp
    rfl
   try replace h0f := of_decide_eq_false h0f
   skip
   refine AW.exit ?_
   have hdn := hli.done (by rw [List.length_drop]; omega)
   refine AW.freeze 0 4 rfl (B rfl) rfl ?_
   refine AW.rseq ?_
   refine Y1 (Yv.move rfl eV) ?_
   refine Y1 (Yv.assign rfl eV) ?_
   refine Y1 (Yv.assign rfl eV) ?_
   refine nl ?_
   refine AW.ret (retI (.tmp rfl (.tmp rfl .nil)) ?_)
   rw [hdn]
   rfl

set_option maxHeartbeats 1000000 in
theorem X64Lists8 (l : List Ins) (hl : l.length ≤ NL) (bs : List UInt8) (hb : bs.length ≤ 1099511627) :
    ACalls Tryd.prog 8 [inssT l, u8s bs] [] fun t_ S => t_ = .v (.bool true) := by
  have hlb : (lst bs).1.length ≤ bs.length := by
    rcases lst_or bs with h | h
    · exact (lst_back h).2.2
    · rw [h]; exact Nat.zero_le _
  refine ACalls.intro Tryd.func8 rfl Tryd.ntmps8 (Nat.le_of_ble_eq_true rfl) rfl fun X w0 => ?_
  refine AW.rseq ?_
  refine Y1 (Yv.assign rfl eV) ?_
  refine nl ?_
  refine AW.rseq ?_
  refine Y1 (Yv.move rfl eV) ?_
  refine AWL.callT rfl rfl (B rfl) rfl ce_19 (E rfl rfl) (evsC (E rfl rfl) evs0) (refAll31 l hl) ?_
  rintro t16 S16 rfl
  refine Y1 (Yv.move rfl eV) ?_
  refine Y1 (Yv.extract rfl eV rfl) ?_
  refine Y1 (Yv.extract rfl eV rfl) ?_
  refine Y1 (Yv.assign rfl eV) ?_
  refine Y1 (Yv.assign rfl eV) ?_
  refine nl ?_
  refine AW.rseq ?_
  refine Y1 (Yv.move rfl eV) ?_
  refine AWL.callT rfl rfl (B rfl) rfl ce_20 (E rfl rfl) (evsC (E rfl rfl) evs0) (all20 l hl) ?_
  rintro t21 S21 rfl
  refine Y1 (Yv.move rfl eV) ?_
  refine Y1 (Yv.extract rfl eV rfl) ?_
  refine Y1 (Yv.extract rfl eV rfl) ?_
  refine Y1 (Yv.assign rfl eV) ?_
  refine Y1 (Yv.assign rfl eV) ?_
  refine nl ?_
  refine AW.seq ?_
  refine AW.rseq ?_
  refine Y1 (Yv.move rfl eV) ?_
  refine Y1 (Yv.move rfl eV) ?_
  refine Y1 (Yv.neq rfl eV eV) ?_
  refine Y1 (Yv.move rfl eV) ?_
  refine AWL.ygF rfl rfl rfl rfl (B rfl) (Yv.move rfl (E rfl rfl)) ?_
  refine AWL.ygF rfl rfl rfl rfl (B rfl) (Yv.bytesStr rfl by_24 st_9 (Eg rfl rfl id)) ?_
  refine AWL.ygF rfl rfl rfl rfl (B rfl) (Yv.move rfl (E rfl rfl)) ?_
  refine AWL.ygF rfl rfl rfl rfl (B rfl) (Yv.bytesStr rfl by_24 st_9 (Eg rfl rfl id)) ?_
  refine AWL.ygF rfl rfl rfl rfl (B rfl) (Yv.neqL rfl (Eg rfl rfl id) (Eg rfl rfl id)) ?_
  refine Y1 (Yv.pickOr (t := .const (.bool true)) rfl (E rfl rfl) (Eg rfl rfl id)) ?_
  refine nl ?_
  refine AW.cond rfl (fun h0t => ?_) (fun h0f => ?_)
  ·
   try replace h0t := of_decide_eq_true h0t
   exfalso
   simp only [Bool.or_eq_true, Bool.and_eq_true, Bool.or_eq_false_iff, Bool.and_eq_false_iff, Bool.not_eq_true', Bool.not_eq_false', decide_eq_true_eq, decide_eq_false_iff_not, Decidable.not_not, ne_eq, not_true, Bool.true_eq_false, false_or, or_false, Bool.false_eq_true, false_and, and_false, and_true, true_and, not_false_eq_true] at h0t
  try replace h0f := of_decide_eq_false h0f
  refine AW.skip ?_
  refine AW.rseq ?_
  refine Y1 (Yv.move rfl eV) ?_
  refine AWL.callT rfl rfl (B rfl) rfl ce_21 (E rfl rfl) (evsC (E rfl rfl) evs0) (refList21 bs hb) ?_
  rintro t36 S36 rfl
  refine Y1 (Yv.move rfl eV) ?_
  refine Y1 (Yv.extract rfl eV rfl) ?_
  refine Y1 (Yv.extract rfl eV rfl) ?_
  refine Y1 (Yv.assign rfl eV) ?_
  refine Y1 (Yv.assign rfl eV) ?_
  refine nl ?_
  refine AW.rseq ?_
  refine Y1 (Yv.move rfl eV) ?_
  refine AWL.callT rfl rfl (B rfl) rfl ce_22 (E rfl rfl) (evsC (E rfl rfl) evs0) (list22 bs hb) ?_
  rintro t41 S41 rfl
  refine Y1 (Yv.move rfl eV) ?_
  refine Y1 (Yv.extract rfl eV rfl) ?_
  refine Y1 (Yv.extract rfl eV rfl) ?_
  refine Y1 (Yv.assign rfl eV) ?_
  refine Y1 (Yv.assign rfl eV) ?_
  refine nl ?_
  refine AW.seq ?_
  refine AW.rseq ?_
  refine Y1 (Yv.move rfl eV) ?_
  refine Y1 (Yv.move rfl eV) ?_
  refine Y1 (Yv.neq rfl eV eV) ?_
  refine Y1 (Yv.move rfl eV) ?_
  refine AWL.ygF rfl rfl rfl rfl (B rfl) (Yv.move rfl (E rfl rfl)) ?_
  refine AWL.ygF rfl rfl rfl rfl (B rfl) (Yv.lenSl rfl so_36 (B rfl) (Eg rfl rfl id) len_inss) ?_
  refine AWL.ygF rfl rfl rfl rfl (B rfl) (Yv.move rfl (E rfl rfl)) ?_
  refine AWL.ygF rfl rfl rfl rfl (B rfl) (Yv.lenSl rfl so_36 (B rfl) (Eg rfl rfl id) len_inss) ?_
  refine AWL.ygF rfl rfl rfl rfl (B rfl) (Yv.neq rfl (Eg rfl rfl id) (Eg rfl rfl id)) ?_
  refine Y1 (Yv.pickOr (t := .const (.bool true)) rfl (E rfl rfl) (Eg rfl rfl id)) ?_
  refine nl ?_
  refine AW.cond rfl (fun h1t => ?_) (fun h1f => ?_)
  ·
   try replace h1t := of_decide_eq_true h1t
   exfalso
   simp only [Bool.or_eq_true, Bool.and_eq_true, Bool.or_eq_false_iff, Bool.and_eq_false_iff, Bool.not_eq_true', Bool.not_eq_false', decide_eq_true_eq, decide_eq_false_iff_not, Decidable.not_not, ne_eq, not_true, Bool.true_eq_false, false_or, or_false, Bool.false_eq_true, false_and, and_false, and_true, true_and, not_false_eq_true] at h1t
  try replace h1f := of_decide_eq_false h1f
  refine AW.skip ?_
  refine AW.seq ?_
  refine AW.rseq ?_
  refine Y1 (Yv.assign rfl eV) ?_
  refine nl ?_
  refine AW.block ?_
  refine AW.loop (fun (k : Nat) => [(9, true, inssT (lst bs).1), (11, true, inssT (lst bs).1), (13, true, .v (.int .i64 (k : Int)))]) (fun (k : Nat) => []) (fun (k : Nat) => k ≤ (lst bs).1.length) (fun (k : Nat) => (lst bs).1.length - k) 0 ?_ ?_ ?_ ?_
  · exact Nat.zero_le _
  · exact (Sub.cons rfl rfl (Sub.cons rfl rfl (Sub.cons rfl rfl Sub.nil)))
  · rfl
  ·
   intro k hinv
   refine AW.seq ?_
   refine AW.rseq ?_
   refine Y1 (Yv.move rfl eV) ?_
   refine Y1 (Yv.move rfl eV) ?_
   refine Y1 (Yv.lenSl rfl so_36 (B rfl) (E rfl rfl) len_inss) ?_
   refine Y1 (Yv.lss rfl eV eV) ?_
   refine nl ?_
   refine AW.cond rfl (fun h2t => ?_) (fun h2f => ?_)
   ·
    try replace h2t := of_decide_eq_true h2t
    refine AW.skip ?_
    refine AW.seq ?_
    refine AW.block ?_
    refine AW.rseqQ rfl (by kernel_rfl) ?_
    refine AWQ.y rfl rfl (B rfl) (Yv.move rfl (E rfl rfl)) ?_
    refine AWQ.y rfl rfl (B rfl) (Yv.move rfl (E rfl rfl)) ?_
    refine AWQ.y rfl rfl (B rfl) (Yv.indexSl rfl ss_36 (B rfl) (E rfl rfl) (E rfl rfl) (fun hg => ⟨rfl, (by first | omega | (simp only [len_inss, len_u8s, len_ints]; omega))⟩)) ?_
    refine AWQ.y rfl rfl (B rfl) (Yv.loadRpA rfl ag_23 (E rfl rfl) (fun hg => ins_get (by omega))) ?_
    refine AWQ.y rfl rfl (B rfl) (Yv.move rfl (E rfl rfl)) ?_
    refine AWQ.y rfl rfl (B rfl) (Yv.move rfl (E rfl rfl)) ?_
    refine AWQ.y rfl rfl (B rfl) (Yv.indexSl rfl ss_36 (B rfl) (E rfl rfl) (E rfl rfl) (fun hg => ⟨rfl, (by first | omega | (simp only [len_inss, len_u8s, len_ints]; omega))⟩)) ?_
    refine AWQ.y rfl rfl (B rfl) (Yv.loadRpA rfl ag_23 (E rfl rfl) (fun hg => ins_get (by omega))) ?_
    refine AWQ.y rfl rfl (B rfl) (Yv.neqA (us := insVals ((lst bs).1.getD k default)) (vs := insVals ((lst bs).1.getD k default)) rfl fl_23 (E rfl rfl) (E rfl rfl) rfl rfl (ins_eq ((lst bs).1.getD k default) ((lst bs).1.getD k default))) ?_
    refine AWQ.nil ?_
    refine AW.cond rfl (fun h3t => ?_) (fun h3f => ?_)
    ·
     try replace h3t := of_decide_eq_true h3t
     exact absurd h3t (by simp)
    try replace h3f := of_decide_eq_false h3f
    refine AW.skip ?_
    refine AW.region ?_
    refine Y1 (Yv.move rfl eV) ?_
    refine Y1 (Yv.addN_i64 rfl (E rfl rfl) (E rfl rfl) (fun hg => by omega)) ?_
    refine Y1 (Yv.assign rfl eV) ?_
    refine nl ?_
    refine ⟨k + 1, by omega, by omega, Sub.cons rfl rfl (Sub.cons rfl rfl (Sub.cons rfl (by simp) Sub.nil)), rfl⟩
   try replace h2f := of_decide_eq_false h2f
   refine AW.exit ?_
   refine AW.rseq ?_
   refine AWL.callP rfl rfl (B rfl) rfl ce_16 (E rfl rfl) evs0 (known16) (fun t S h => h) ?_
   refine Y1 (Yv.assign rfl eV) ?_
   refine nl ?_
   refine AW.ret (retI (.tmp rfl .nil) ?_)
   rfl

end Go.Proofs.YtjndpakhmgapjaaDoor

namespace Go.Proofs.YtjndpakhmgapjaaDoor
open Go.ChangeShapes Go.WideShapes Go.ChangeAt Go Go.RowKit
theorem bulk_one {H : Type} (d : DataW H) : 1 ≤ Rows.uptoBulk d := by
  cases d with
  | lit l => cases l <;> simp [Rows.uptoBulk]
  | _ => simp [Rows.uptoBulk]
theorem bulk_append {H : Type} (l r : List (DataW H)) : Rows.uptoBulkAll (l ++ r) = Rows.uptoBulkAll l + Rows.uptoBulkAll r := by
  induction l with
  | nil => simp [Rows.uptoBulkAll]
  | cons x s ih => simp only [Rows.uptoBulkAll, List.cons_append, ih]; omega
theorem bound {H : Type} {l : List (DataW H)} (hk : Rows.uptoSmall H l = true) : Rows.uptoBulkAll l ≤ 1048576 := by
  simpa [Rows.uptoSmall] using hk
theorem cell_lt {w : World} {a : Addr} {v : Value} (h : w.cell? a = some v) : a.block < w.heap.size := by
  rcases Nat.lt_or_ge a.block w.heap.size with hn | hn
  · exact hn
  · simp [World.cell?, Array.getElem?_eq_none hn] at h
/-- A type opened: its cells read as the tree of some plain datum. -/
structure Opens (P : Program) (t : TypeId) {X : Type} (k : Nat) (cells : X → List T) (bulk : X → Nat) (ok : X → Prop) : Prop where
  size : P.cellsOf t = k
  one : ∀ {H : Type} {enc : TypeId × Value → H} {w : World} {base : Nat} {spare : Nat → Bool} {held : Bool} {fuel : Nat} {cs : List Value} {x : DataW H × List MemPlace},
    DataW.trod enc P w base spare held fuel t cs = some x → ∃ a, ok a ∧ VReps w [] (cells a) cs ∧ cs.length = k ∧ bulk a ≤ Rows.uptoBulk x.1
theorem Opens.turn {P : Program} {t : TypeId} {X Y : Type} {k : Nat} {cells : X → List T} {cells' : Y → List T} {bulk : X → Nat} {bulk' : Y → Nat} {ok : X → Prop} {ok' : Y → Prop} (h : Opens P t k cells bulk ok) (g : X → Y)
    (h1 : ∀ a, ok a → cells' (g a) = cells a ∧ bulk' (g a) ≤ bulk a ∧ ok' (g a)) : Opens P t k cells' bulk' ok' :=
  ⟨h.size, fun e => by
    obtain ⟨a, h2, h3, h4, h5⟩ := h.one e
    obtain ⟨h6, h7, h8⟩ := h1 a h2
    exact ⟨g a, h8, h6 ▸ h3, h4, Nat.le_trans h7 h5⟩⟩
theorem VReps.single {w : World} {L : List Nat} {t : T} {u : Value} (h : VRep w L t u) (h1 : u.oneCell' = true) : VReps w L [t] [u] := .cons h h1 .nil
theorem opens_int {P : Program} {t : TypeId} {k : IntKind} (ht : P.underlying t = some (.int k)) (hs : P.cellsOf t = 1) : Opens P t 1 (fun z : Int => [.v (.int k z)]) (fun _ => 1) (fun z => (Lit.int k z).wf = true) :=
  ⟨hs, fun e => by
    obtain ⟨n, rfl, rfl, h⟩ := DataW.trod_int ht e
    exact ⟨n, h, .single (.v _) rfl, rfl, bulk_one _⟩⟩
/-- The fields from a place on. -/
structure OpensF (P : Program) (fs : List Field) (o : Nat) {X : Type} (k : Nat) (cells : X → List T) (bulk : X → Nat) (ok : X → Prop) : Prop where
  all : ∀ {H : Type} {enc : TypeId × Value → H} {w : World} {base : Nat} {spare : Nat → Bool} {held : Bool} {n : Nat} {cs : List Value} {ys : List (DataW H × List MemPlace)},
    ys.length = fs.length → cs.length = o + k → (∀ (i : Nat) (f : Field), fs[i]? = some f → DataW.trod enc P w base spare held n f.type ((cs.drop f.offset).take (P.cellsOf f.type)) = ys[i]?) →
      ∃ a, ok a ∧ VReps w [] (cells a) (cs.drop o) ∧ bulk a ≤ Rows.uptoBulkAll (ys.map (·.1))
theorem opensF_nil {P : Program} {o : Nat} : OpensF P [] o 0 (fun _ : Unit => []) (fun _ => 0) (fun _ => True) :=
  ⟨fun {H enc w base spare held n cs ys} h1 h2 _ => ⟨(), trivial, by rw [List.drop_of_length_le (by omega)]; exact .nil, Nat.zero_le _⟩⟩
theorem opensF_cons {P : Program} {f : Field} {fs : List Field} {o k m : Nat} {X Y : Type} {cells : X → List T} {cells' : Y → List T} {bulk : X → Nat} {bulk' : Y → Nat} {ok : X → Prop} {ok' : Y → Prop} (h0 : Opens P f.type k cells bulk ok) (ho : f.offset = o)
    (h : OpensF P fs (o + k) m cells' bulk' ok') : OpensF P (f :: fs) o (k + m) (fun a : X × Y => cells a.1 ++ cells' a.2) (fun a => bulk a.1 + bulk' a.2) (fun a => ok a.1 ∧ ok' a.2) :=
  ⟨fun {H enc w base spare held n cs ys} h1 h2 h3 => by
    match ys, h1 with
    | y :: ys, h1 =>
      have e := h3 0 f rfl
      rw [ho, h0.size] at e
      simp only [List.getElem?_cons_zero] at e
      obtain ⟨a, q1, q2, q3, q4⟩ := h0.one e
      obtain ⟨b, r1, r2, r3⟩ := h.all (ys := ys) (cs := cs) (by simpa using h1) (by omega) (fun i g hg => by simpa using h3 (i + 1) g (by simpa using hg))
      refine ⟨(a, b), ⟨q1, r1⟩, ?_, by simp only [List.map_cons, Rows.uptoBulkAll]; omega⟩
      rw [← List.drop_drop] at r2
      have := q2.append r2
      rwa [List.take_append_drop] at this⟩
theorem opens_struct {P : Program} {t : TypeId} {fs : Array Field} {X : Type} {k : Nat} {cells : X → List T} {bulk : X → Nat} {ok : X → Prop} (ht : P.underlying t = some (.struct fs)) (hs : P.cellsOf t = k) (h : OpensF P fs.toList 0 k cells bulk ok) :
    Opens P t k cells (fun a => bulk a + 1) ok :=
  ⟨hs, fun e => by
    obtain ⟨xs, n, _, rfl, hl, hlen, hf⟩ := DataW.trod_struct ht e
    obtain ⟨a, h1, h2, h3⟩ := h.all (by simpa using hlen) (by omega) (fun i f hi => hf i f (by simpa using hi))
    exact ⟨a, h1, by simpa using h2, by omega, by simp only [Rows.uptoBulk]; omega⟩⟩
def sumBulk {X : Type} (bulk : X → Nat) (l : List X) : Nat := (l.map bulk).sum
theorem opens_slice {P : Program} {t e : TypeId} {X : Type} {k : Nat} {cells : X → List T} {bulk : X → Nat} {ok : X → Prop} (ht : P.underlying t = some (.slice e)) (hs : P.cellsOf t = 1) (hk : 0 < k) (h : Opens P e k cells bulk ok) :
    Opens P t 1 (fun l : List X => [.sl k (l.flatMap cells)]) (fun l => sumBulk bulk l + 1) (fun l => (∀ a ∈ l, ok a) ∧ l.length ≤ maxLen) :=
  ⟨hs, fun {H enc w base spare held fuel cs x} ex => by
    rcases Go.Deep.open_slice ht ex with ⟨rfl, rfl⟩ | ⟨a, len, cap, m, n, D, Pl, rfl, hb, hl, hm, hmm, rfl, hx⟩
    · exact ⟨[], ⟨fun a ha => (by cases ha), Nat.zero_le _⟩, .single (.sl0 (Nat.zero_le _)) rfl, rfl, by simp [sumBulk, Rows.uptoBulk]⟩
    · have hlm : len ≤ m := by rw [hmm]; split <;> omega
      rw [h.size] at hx
      have key : ∀ q, q ≤ len → ∃ (l : List X) (us : List Value), l.length = q ∧ us.length = q * k ∧ VReps w [] (l.flatMap cells) us ∧ (∀ j u, us[j]? = some u → w.cell? (a.add j) = some u) ∧ (∀ a ∈ l, ok a) ∧
          sumBulk bulk l ≤ Rows.uptoBulkAll ((List.range q).map D) := by
        intro q
        induction q with
        | zero => exact fun _ => ⟨[], [], rfl, by simp, .nil, fun j u hu => by simp at hu, fun a ha => (by cases ha), by simp [sumBulk]⟩
        | succ q ih =>
          intro hq
          obtain ⟨l, us, h1, h2, h3, h4, h5, h6⟩ := ih (by omega)
          obtain ⟨cs', h7, h8⟩ := hx q (by omega)
          obtain ⟨a', h9, h10, h11, h12⟩ := h.one h8
          obtain ⟨_, _, h13⟩ := World.cells?_some h7
          refine ⟨l ++ [a'], us ++ cs', by simp [h1], ?_, ?_, ?_, ?_, ?_⟩
          · rw [List.length_append, h2, h11, Nat.succ_mul]
          · rw [List.flatMap_append]
            simpa using h3.append h10
          · intro j u hu
            by_cases hj : j < us.length
            · rw [List.getElem?_append_left hj] at hu
              exact h4 j u hu
            · rw [List.getElem?_append_right (by omega)] at hu
              have hjl := (List.getElem?_eq_some_iff.1 hu).1
              have := h13 (j - us.length) (by omega)
              rw [add_add', hu] at this
              rw [← this]
              congr 2
              omega
          · intro y hy
            rcases List.mem_append.1 hy with hy | hy
            · exact h5 y hy
            · rcases List.mem_singleton.1 hy with rfl
              exact h9
          · rw [List.range_succ, List.map_append, bulk_append]
            simp only [sumBulk, List.map_append, List.sum_append, List.map_cons, List.map_nil, List.sum_cons, List.sum_nil, Rows.uptoBulkAll] at h6 h12 ⊢
            omega
      obtain ⟨l, us, h1, h2, h3, h4, h5, h6⟩ := key len (Nat.le_refl _)
      refine ⟨l, ⟨h5, by omega⟩, .single ?_ rfl, rfl, by simp only [Rows.uptoBulk]; omega⟩
      rcases Nat.eq_zero_or_pos len with rfl | hpos
      · rw [List.eq_nil_of_length_eq_zero h1]
        exact .sl0 hm
      · have hlu := h3.len
        have hup : 0 < us.length := by rw [h2]; exact Nat.mul_pos hpos hk
        have hc0 := h4 0 _ (List.getElem?_eq_getElem hup)
        exact .sl hpos (by rw [hlu, h2]) hlu hl hm (by have := cell_lt hc0; rwa [block_add] at this) (by simp) h4 h3.at_ h3.one⟩
/-- A byte as a number. -/
def byteOfInt (z : Int) : UInt8 := UInt8.ofNat z.toNat
theorem byteOfInt_back {z : Int} (h : (Lit.int .u8 z).wf = true) : ((byteOfInt z).toNat : Int) = z := by
  have hx : 0 ≤ z ∧ z ≤ 255 := by simpa [Lit.wf, IntKind.min, IntKind.max, IntKind.signed, IntKind.bits] using h
  unfold byteOfInt
  rw [UInt8.toNat_ofNat']
  omega
theorem sumBulk_one {X : Type} : ∀ (l : List X), sumBulk (fun _ => 1) l = l.length
  | [] => rfl
  | _ :: r => by have := sumBulk_one r; simp only [sumBulk, List.map_cons, List.sum_cons, List.length_cons] at this ⊢; omega
theorem flat_one {X : Type} (f : X → T) : ∀ (l : List X), l.flatMap (fun a => [f a]) = l.map f
  | [] => rfl
  | _ :: r => by simp [flat_one f r]
theorem opens_bytes {P : Program} {t e : TypeId} (ht : P.underlying t = some (.slice e)) (hs : P.cellsOf t = 1) (he : P.underlying e = some (.int .u8)) (hs' : P.cellsOf e = 1) :
    Opens P t 1 (fun l : List UInt8 => [.sl 1 (l.map fun b => .v (.int .u8 b.toNat))]) (fun l => l.length + 1) (fun l => l.length ≤ maxLen) :=
  (opens_slice ht hs (by decide) (opens_int he hs')).turn (fun l => l.map byteOfInt) (fun l hl => ⟨by
      rw [flat_one, List.map_map]
      congr 2
      refine List.map_congr_left fun z hz => ?_
      simp only [Function.comp]
      rw [byteOfInt_back (hl.1 z hz)], by simp [sumBulk_one], by simpa using hl.2⟩)
/-- An argument of a struct's type. -/
theorem Opens.agg {P : Program} {t : TypeId} {fs : Array Field} {X : Type} {k : Nat} {cells : X → List T} {bulk : X → Nat} {ok : X → Prop} (h : Opens P t k cells bulk ok) (ht : P.underlying t = some (.struct fs))
    {H : Type} {enc : TypeId × Value → H} {w : World} {base b0 : Nat} {r : Reach} {spare : Nat → Bool} {held : Bool} {v : Value} {d : DataW H} {p : List MemPlace} (hv : Value.okWide P w r b0 t v) (e : DataW.Trod enc P w base spare held t v d p) :
    ∃ a, ok a ∧ VRep w [] (.agg (cells a)) v ∧ bulk a ≤ Rows.uptoBulk d := by
  obtain ⟨cs, rfl, hsz⟩ := okWide_struct ht hv
  obtain ⟨fuel, hf⟩ := e
  obtain ⟨a, h1, h2, h3, h4⟩ := h.one hf
  simp only [Value.cells] at h2 h3
  exact ⟨a, h1, by
    have := VRep.agg h2.len h2.at_ h2.one
    simpa using this, h4⟩
/-- An argument of a slice's type. -/
theorem Opens.row {P : Program} {t e : TypeId} {X : Type} {cell : X → T} {bulk : X → Nat} {ok : X → Prop} (h : Opens P t 1 (fun a => [cell a]) bulk ok) (ht : P.underlying t = some (.slice e))
    {H : Type} {enc : TypeId × Value → H} {w : World} {base b0 : Nat} {r : Reach} {spare : Nat → Bool} {held : Bool} {v : Value} {d : DataW H} {p : List MemPlace} (hv : Value.okWide P w r b0 t v) (e : DataW.Trod enc P w base spare held t v d p) :
    ∃ a, ok a ∧ VRep w [] (cell a) v ∧ bulk a ≤ Rows.uptoBulk d := by
  obtain ⟨A, l, c, rfl⟩ := okWide_slice ht hv
  obtain ⟨fuel, hf⟩ := e
  obtain ⟨a, h1, h2, h3, h4⟩ := h.one hf
  simp only [Value.cells] at h2 h3
  exact ⟨a, h1, h2.at_ 0 _ _ rfl rfl, h4⟩
end Go.Proofs.YtjndpakhmgapjaaDoor

namespace Go.Proofs.YtjndpakhmgapjaaDoor
open Go.ChangeShapes Go.WideShapes Go.ChangeAt Go Go.RowKit
set_option linter.unusedSimpArgs false
set_option linter.unnecessarySimpa false
theorem laidOut : laidOutB Tryd.prog = true := by kernel_rfl
theorem opens3 : Opens Tryd.prog 3 1 (fun z : Int => [.v (.int .i64 z)]) (fun _ => 1) (fun z => (Lit.int .i64 z).wf = true) := opens_int Tryd.underlying3 (by kernel_rfl)
theorem opens2 : Opens Tryd.prog 2 1 (fun z : Int => [.v (.int .i64 z)]) (fun _ => 1) (fun z => (Lit.int .i64 z).wf = true) := opens_int Tryd.underlying2 (by kernel_rfl)
theorem int_i64 {z : Int} (h : (Lit.int .i64 z).wf = true) : I64 z := by simpa [Lit.wf, IntKind.min, IntKind.max, IntKind.signed, IntKind.bits, I64] using h
theorem opens23 : Opens Tryd.prog 23 6 insCells (fun _ => 1) InsOk :=
  (opens_struct Tryd.underlying23 (by kernel_rfl) (opensF_cons opens3 rfl (opensF_cons opens3 rfl (opensF_cons opens3 rfl (opensF_cons opens3 rfl (opensF_cons opens3 rfl (opensF_cons opens2 rfl opensF_nil))))))).turn (fun a => (⟨a.1, a.2.1, a.2.2.1, a.2.2.2.1, a.2.2.2.2.1, a.2.2.2.2.2.1⟩ : Ins))
    (fun a h => ⟨rfl, by omega, by
      obtain ⟨h1, h2, h3, h4, h5, h6, _⟩ := h
      exact ⟨int_i64 h1, int_i64 h2, int_i64 h3, int_i64 h4, int_i64 h5, int_i64 h6⟩⟩)
theorem opens36 : Opens Tryd.prog 36 1 (fun l : List Ins => [inssT l]) (fun l => sumBulk (fun _ => 1) l + 1) (fun l => (∀ a ∈ l, InsOk a) ∧ l.length ≤ maxLen) := opens_slice Tryd.underlying36 (by kernel_rfl) (by decide) opens23
theorem opens24 : Opens Tryd.prog 24 1 (fun l : List UInt8 => [u8s l]) (fun l => l.length + 1) (fun l => l.length ≤ maxLen) :=
  (opens_bytes Tryd.underlying24 (by kernel_rfl) Tryd.underlying5 (by kernel_rfl)).turn id (fun l hl => ⟨rfl, Nat.le_refl _, hl⟩)
section
variable {H : Type} {enc : TypeId × Value → H} {w : World} {base b0 : Nat} {spare : Nat → Bool} {held : Bool} {v : Value} {d : DataW H} {p : List MemPlace}
set_option maxRecDepth 100000 in
theorem open_inss (hv : Value.okWide Tryd.prog w .any b0 36 v) (e : DataW.Trod enc Tryd.prog w base spare held 36 v d p) : ∃ l : List Ins, VRep w [] (inssT l) v ∧ l.length ≤ Rows.uptoBulk d ∧ ∀ a ∈ l, InsOk a := by
  obtain ⟨l, h1, h2, h3⟩ := opens36.row Tryd.underlying36 hv e
  rw [sumBulk_one] at h3
  exact ⟨l, h2, by omega, h1.1⟩
set_option maxRecDepth 100000 in
theorem open_bytes (hv : Value.okWide Tryd.prog w .any b0 24 v) (e : DataW.Trod enc Tryd.prog w base spare held 24 v d p) : ∃ l : List UInt8, VRep w [] (u8s l) v ∧ l.length ≤ Rows.uptoBulk d := by
  obtain ⟨l, _, h2, h3⟩ := opens24.row Tryd.underlying24 hv e
  exact ⟨l, h2, by omega⟩
end
end Go.Proofs.YtjndpakhmgapjaaDoor
