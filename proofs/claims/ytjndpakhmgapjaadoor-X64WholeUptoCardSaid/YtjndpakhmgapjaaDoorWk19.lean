/-
  CONTRACTS of the x64 package: what reads an instruction's bytes; walked by program.
-/
import Derived.Test.YtjndpakhmgapjaaDoorWk4
import Derived.Test.YtjndpakhmgapjaaDoorDec
namespace Go.Proofs.YtjndpakhmgapjaaDoor
open Go Go.RowKit
set_option linter.unusedVariables false
set_option linter.unnecessarySimpa false
set_option linter.unusedSimpArgs false

set_option maxHeartbeats 400000 in
theorem next63 (b : Nat) (bs : List UInt8) (r : Rd) (hb : bs.length ≤ 1099511627776) (hr : RdOk bs r) :
    ACalls Tryd.prog 58 [.v (.pointer (some ⟨b, 0, none⟩))] [Ent.box b 68 (rdCells bs r)] (fun t_ S => t_ = .v (.int .i64 (nextF bs r).1) ∧ S = [Ent.box b 68 (rdCells bs (nextF bs r).2)]) := by
  unfold RdOk at hr
  refine ACalls.intro Tryd.func58 rfl Tryd.ntmps58 (Nat.le_of_ble_eq_true rfl) rfl fun X w0 => ?_
  refine AW.rseq ?_
  refine AWL.y rfl rfl (B rfl) (Yv.assign rfl (E rfl rfl)) ?_
  refine AWL.nil ?_
  refine AW.seq ?_
  refine AW.rseq ?_
  refine AWL.y rfl rfl (B rfl) (Yv.move rfl (E rfl rfl)) ?_
  refine AWL.y rfl rfl (B rfl) (Yv.nilChk rfl (E rfl rfl)) ?_
  refine AWL.y rfl rfl (B rfl) (Yv.fieldBox rfl fo_68_2 (E rfl rfl)) ?_
  refine AWL.y rfl rfl (B rfl) (Yv.loadBox rfl ag_4 (i := 0) rfl (E rfl rfl) rfl) ?_
  refine AWL.y rfl rfl (B rfl) (Yv.move rfl (E rfl rfl)) ?_
  refine AWL.ygF rfl rfl rfl rfl (B rfl) (Yv.move rfl (E rfl rfl)) ?_
  refine AWL.ygF rfl rfl rfl rfl (B rfl) (Yv.nilChk rfl (Eg rfl rfl id)) ?_
  refine AWL.ygF rfl rfl rfl rfl (B rfl) (Yv.fieldBox rfl fo_68_3 (Eg rfl rfl id)) ?_
  refine AWL.ygF rfl rfl rfl rfl (B rfl) (Yv.loadBox rfl ag_4 (i := 0) rfl (Eg rfl rfl id) rfl) ?_
  refine AWL.y rfl rfl (B rfl) (Yv.pickOr (t := .const (.bool true)) rfl (E rfl rfl) (Eg rfl rfl id)) ?_
  refine AWL.nil ?_
  refine AW.cond rfl (fun h0t => ?_) (fun h0f => ?_)
  ·
   try replace h0t := of_decide_eq_true h0t
   refine AW.rseq ?_
   refine AWL.y rfl rfl (B rfl) (Yv.assign rfl (E rfl rfl)) ?_
   refine AWL.nil ?_
   refine AW.ret (retI (.tmp rfl .nil) ?_)
   rw [nextF, if_pos h0t]
   exact ⟨rfl, rfl⟩
  try replace h0f := of_decide_eq_false h0f
  refine AW.skip ?_
  refine AW.seq ?_
  refine AW.rseqQ rfl (by kernel_rfl) ?_
  refine AWQ.y rfl rfl (B rfl) (Yv.move rfl (E rfl rfl)) ?_
  refine AWQ.y rfl rfl (B rfl) (Yv.nilChk rfl (E rfl rfl)) ?_
  refine AWQ.y rfl rfl (B rfl) (Yv.fieldBox rfl fo_68_1 (E rfl rfl)) ?_
  refine AWQ.y rfl rfl (B rfl) (Yv.loadBox rfl ag_3 (i := 0) rfl (E rfl rfl) rfl) ?_
  refine AWQ.y rfl rfl (B rfl) (Yv.move rfl (E rfl rfl)) ?_
  refine AWQ.y rfl rfl (B rfl) (Yv.nilChk rfl (E rfl rfl)) ?_
  refine AWQ.y rfl rfl (B rfl) (Yv.fieldBox rfl fo_68_0 (E rfl rfl)) ?_
  refine AWQ.y rfl rfl (B rfl) (Yv.loadBox rfl ag_24 (i := 0) rfl (E rfl rfl) rfl) ?_
  refine AWQ.y rfl rfl (B rfl) (Yv.lenSl rfl so_24 (B rfl) (E rfl rfl) len_u8s) ?_
  refine AWQ.y rfl rfl (B rfl) (Yv.eql rfl (E rfl rfl) (E rfl rfl)) ?_
  refine AWQ.nil ?_
  refine AW.cond rfl (fun h1t => ?_) (fun h1f => ?_)
  ·
   try replace h1t := of_decide_eq_true h1t
   refine AW.rseq ?_
   refine AWL.y rfl rfl (B rfl) (Yv.move rfl (E rfl rfl)) ?_
   refine AWL.y rfl rfl (B rfl) (Yv.nilChk rfl (E rfl rfl)) ?_
   refine AWL.y rfl rfl (B rfl) (Yv.fieldBox rfl fo_68_2 (E rfl rfl)) ?_
   refine AWL.storeBox (i := 0) rfl rfl rfl ag_4 rfl (E rfl rfl) (E rfl rfl) rfl rfl (Nat.le_of_ble_eq_true rfl) ?_
   refine AWL.nil ?_
   refine AW.rseq ?_
   refine AWL.y rfl rfl (B rfl) (Yv.assign rfl (E rfl rfl)) ?_
   refine AWL.nil ?_
   refine AW.ret (retI (.tmp rfl .nil) ?_)
   rw [nextF, if_neg (ne_true_of_eq_false h0f), if_pos (by omega)]
   exact ⟨rfl, rfl⟩
  try replace h1f := of_decide_eq_false h1f
  refine AW.skip ?_
  refine AW.rseq ?_
  refine AWL.y rfl rfl (B rfl) (Yv.move rfl (E rfl rfl)) ?_
  refine AWL.y rfl rfl (B rfl) (Yv.nilChk rfl (E rfl rfl)) ?_
  refine AWL.y rfl rfl (B rfl) (Yv.fieldBox rfl fo_68_1 (E rfl rfl)) ?_
  refine AWL.y rfl rfl (B rfl) (Yv.loadBox rfl ag_3 (i := 0) rfl (E rfl rfl) rfl) ?_
  refine AWL.y rfl rfl (B rfl) (Yv.addN_i64 rfl (E rfl rfl) (E rfl rfl) (fun hg => by omega)) ?_
  refine AWL.y rfl rfl (B rfl) (Yv.nilChk rfl (E rfl rfl)) ?_
  refine AWL.y rfl rfl (B rfl) (Yv.fieldBox rfl fo_68_1 (E rfl rfl)) ?_
  refine AWL.storeBox (i := 0) rfl rfl rfl ag_3 rfl (E rfl rfl) (E rfl rfl) rfl rfl (Nat.le_of_ble_eq_true rfl) ?_
  refine AWL.nil ?_
  refine AW.rseqQ rfl (by kernel_rfl) ?_
  refine AWQ.y rfl rfl (B rfl) (Yv.move rfl (E rfl rfl)) ?_
  refine AWQ.y rfl rfl (B rfl) (Yv.nilChk rfl (E rfl rfl)) ?_
  refine AWQ.y rfl rfl (B rfl) (Yv.fieldBox rfl fo_68_0 (E rfl rfl)) ?_
  refine AWQ.y rfl rfl (B rfl) (Yv.loadBox rfl ag_24 (i := 0) rfl (E rfl rfl) rfl) ?_
  refine AWQ.y rfl rfl (B rfl) (Yv.move rfl (E rfl rfl)) ?_
  refine AWQ.y rfl rfl (B rfl) (Yv.nilChk rfl (E rfl rfl)) ?_
  refine AWQ.y rfl rfl (B rfl) (Yv.fieldBox rfl fo_68_1 (E rfl rfl)) ?_
  refine AWQ.y rfl rfl (B rfl) (Yv.loadBox rfl ag_3 (i := 0) rfl (E rfl rfl) rfl) ?_
  refine AWQ.y rfl rfl (B rfl) (Yv.subN_i64 rfl (E rfl rfl) (E rfl rfl) (fun hg => by omega)) ?_
  refine AWQ.y rfl rfl (B rfl) (Yv.indexSl (j := r.at_) rfl ss_24 (B rfl) (E rfl rfl) (E rfl rfl) (fun hg => ⟨by omega, by simp only [len_u8s]; omega⟩)) ?_
  refine AWQ.y rfl rfl (B rfl) (Yv.loadRp rfl ag_5 (E rfl rfl) (fun hg => u8_get (by omega))) ?_
  refine AWQ.y rfl rfl (B rfl) (Yv.convU8 rfl Tryd.underlying5 kd_3 rfl (E rfl rfl)) ?_
  refine AWQ.y rfl rfl (B rfl) (Yv.assign rfl (E rfl rfl)) ?_
  refine AWQ.nil ?_
  refine AW.ret (retI (.tmp rfl .nil) ?_)
  rw [nextF, if_neg (ne_true_of_eq_false h0f), if_neg (by omega)]
  exact ⟨rfl, rfl⟩

set_option maxHeartbeats 400000 in
theorem must64 (b : Nat) (bs : List UInt8) (r : Rd) (is : Bool) :
    ACalls Tryd.prog 59 [.v (.pointer (some ⟨b, 0, none⟩)), .v (.bool is)] [Ent.box b 68 (rdCells bs r)] (fun t_ S => S = [Ent.box b 68 (rdCells bs (mustF r is))]) := by
  refine ACalls.intro Tryd.func59 rfl Tryd.ntmps59 (Nat.le_of_ble_eq_true rfl) rfl fun X w0 => ?_
  refine AW.rseq ?_
  refine AWL.y rfl rfl (B rfl) (Yv.move rfl (E rfl rfl)) ?_
  refine AWL.y rfl rfl (B rfl) (Yv.nilChk rfl (E rfl rfl)) ?_
  refine AWL.y rfl rfl (B rfl) (Yv.fieldBox rfl fo_68_2 (E rfl rfl)) ?_
  refine AWL.y rfl rfl (B rfl) (Yv.loadBox rfl ag_4 (i := 0) rfl (E rfl rfl) rfl) ?_
  refine AWL.y rfl rfl (B rfl) (Yv.not rfl (E rfl rfl)) ?_
  refine AWL.y rfl rfl (B rfl) (Yv.move rfl (E rfl rfl)) ?_
  refine AWL.ygT rfl rfl rfl rfl (B rfl) (Yv.move rfl (E rfl rfl)) ?_
  refine AWL.ygT rfl rfl rfl rfl (B rfl) (Yv.not rfl (Eg rfl rfl id)) ?_
  refine AWL.y rfl rfl (B rfl) (Yv.pickAnd rfl (E rfl rfl) (Eg rfl rfl id)) ?_
  refine AWL.nil ?_
  refine AW.cond rfl (fun h0t => ?_) (fun h0f => ?_)
  ·
   try replace h0t := of_decide_eq_true h0t
   refine AW.region ?_
   refine AWL.y rfl rfl (B rfl) (Yv.move rfl (E rfl rfl)) ?_
   refine AWL.y rfl rfl (B rfl) (Yv.nilChk rfl (E rfl rfl)) ?_
   refine AWL.y rfl rfl (B rfl) (Yv.fieldBox rfl fo_68_3 (E rfl rfl)) ?_
   refine AWL.storeBox (i := 0) rfl rfl rfl ag_4 rfl (E rfl rfl) (E rfl rfl) rfl rfl (Nat.le_of_ble_eq_true rfl) ?_
   refine AWL.nil ?_
   refine retN .nil ?_
   rw [mustF, if_pos h0t] <;> rfl
  try replace h0f := of_decide_eq_false h0f
  refine AW.skip ?_
  refine retN .nil ?_
  rw [mustF, if_neg (ne_true_of_eq_false h0f)] <;> rfl

set_option maxHeartbeats 400000 in
theorem split66 (x : Int) (h0 : 0 ≤ x) (h1 : x ≤ 255) :
    ACalls Tryd.prog 61 [.v (.int .i64 x)] [] (fun t_ S => t_ = rxT (splitF x)) := by
  refine ACalls.intro Tryd.func61 rfl Tryd.ntmps61 (Nat.le_of_ble_eq_true rfl) rfl fun X w0 => ?_
  refine AW.rseq ?_
  refine AWL.allocOp rfl rfl (B rfl) rfl zc_87 (fun b2 => ?_)
  refine AWL.nil ?_
  refine AW.rseq ?_
  refine AWL.y rfl rfl (B rfl) (Yv.move rfl (E rfl rfl)) ?_
  refine AWL.y rfl rfl (B rfl) (Yv.shrC 8 (by decide) (by decide) (by decide) rfl (E rfl rfl) (E rfl rfl)) ?_
  refine AWL.y rfl rfl (B rfl) (Yv.andN_i64 1 2 (by decide) (by decide) (by decide) rfl (E rfl rfl) (E rfl rfl) (fun hg => ⟨by omega, by omega⟩)) ?_
  refine AWL.y rfl rfl (B rfl) (Yv.move rfl (E rfl rfl)) ?_
  refine AWL.y rfl rfl (B rfl) (Yv.shrC 4 (by decide) (by decide) (by decide) rfl (E rfl rfl) (E rfl rfl)) ?_
  refine AWL.y rfl rfl (B rfl) (Yv.andN_i64 1 2 (by decide) (by decide) (by decide) rfl (E rfl rfl) (E rfl rfl) (fun hg => ⟨by omega, by omega⟩)) ?_
  refine AWL.y rfl rfl (B rfl) (Yv.shlCN_i64 8 (by decide) (by decide) rfl (E rfl rfl) (E rfl rfl) (fun hg => by omega)) ?_
  refine AWL.y rfl rfl (B rfl) (Yv.move rfl (E rfl rfl)) ?_
  refine AWL.y rfl rfl (B rfl) (Yv.andN_i64 1 2 (by decide) (by decide) (by decide) rfl (E rfl rfl) (E rfl rfl) (fun hg => ⟨by omega, by omega⟩)) ?_
  refine AWL.y rfl rfl (B rfl) (Yv.shlCN_i64 8 (by decide) (by decide) rfl (E rfl rfl) (E rfl rfl) (fun hg => by omega)) ?_
  refine AWL.y rfl rfl (B rfl) (Yv.buildS rfl sh_87 (evpC (E rfl rfl) (evpC (E rfl rfl) (evpC (E rfl rfl) evp0))) (fun _ => rfl)) ?_
  refine AWL.storeBox (i := 0) rfl rfl rfl ag_87 rfl (E rfl rfl) (E rfl rfl) rfl rfl (Nat.le_of_ble_eq_true rfl) ?_
  refine AWL.nil ?_
  refine AW.ret (retI (.cellA (i := 0) rfl ag_87 rfl rfl rfl .nil) ?_)
  rfl

set_option maxHeartbeats 1000000 in
theorem imm68 (b : Nat) (bs : List UInt8) (r : Rd) (hb : bs.length ≤ 1099511627776) (hr : RdOk bs r) (k : Nat) (hk : k = 1 ∨ k = 4 ∨ k = 8) :
    ACalls Tryd.prog 63 [.v (.pointer (some ⟨b, 0, none⟩)), .v (.int .i64 (k : Int))] [Ent.box b 68 (rdCells bs r)] (fun t_ S => t_ = .v (.int .i64 (immV bs r k)) ∧ S = [Ent.box b 68 (rdCells bs (immD bs r k))]) := by
  refine ACalls.intro Tryd.func63 rfl Tryd.ntmps63 (Nat.le_of_ble_eq_true rfl) rfl fun X w0 => ?_
  refine AW.rseq ?_
  refine AWL.y rfl rfl (B rfl) (Yv.assign rfl (E rfl rfl)) ?_
  refine AWL.nil ?_
  refine AW.rseq ?_
  refine AWL.y rfl rfl (B rfl) (Yv.assign rfl (E rfl rfl)) ?_
  refine AWL.nil ?_
  refine AW.seq ?_
  refine AW.rseq ?_
  refine AWL.y rfl rfl (B rfl) (Yv.move rfl (E rfl rfl)) ?_
  refine AWL.y rfl rfl (B rfl) (Yv.move rfl (E rfl rfl)) ?_
  refine AWL.nil ?_
  refine AW.block ?_
  refine AW.loop (fun (j : Nat) => [(0, true, .v (.pointer (some ⟨b, 0, none⟩))), (1, true, .v (.int .i64 (k : Int))), (5, true, .v (.int .u64 (immS bs r j).1)), (8, true, .v (.int .i64 (k : Int))), (9, true, .v (.int .i64 (j : Int)))]) (fun (j : Nat) => [Ent.box b 68 (rdCells bs (immS bs r j).2)]) (fun (j : Nat) => j ≤ k) (fun (j : Nat) => k - j) 0 ?_ ?_ ?_ ?_
  · exact Nat.zero_le _
  · exact (Sub.cons rfl rfl (Sub.cons rfl rfl (Sub.cons rfl rfl (Sub.cons rfl rfl (Sub.cons rfl rfl Sub.nil)))))
  · rfl
  ·
   intro j hinv
   refine AW.rseq ?_
   refine AWL.y rfl rfl (B rfl) (Yv.lss rfl (E rfl rfl) (E rfl rfl)) ?_
   refine AWL.nil ?_
   refine AW.seq ?_
   refine AW.cond rfl (fun h0t => ?_) (fun h0f => ?_)
   ·
    try replace h0t := of_decide_eq_true h0t
    refine AW.skip ?_
    refine AW.seq ?_
    refine AW.block ?_
    refine AW.rseq ?_
    refine AWL.y rfl rfl (B rfl) (Yv.move rfl (E rfl rfl)) ?_
    refine AWL.y rfl rfl (B rfl) (Yv.assign rfl (E rfl rfl)) ?_
    refine AWL.nil ?_
    obtain ⟨hv0, hv1⟩ := next_range bs (immS bs r j).2
    obtain ⟨hn0, hn1⟩ := imm_range bs r j
    refine AW.region ?_
    refine AWL.y rfl rfl (B rfl) (Yv.move rfl (E rfl rfl)) ?_
    refine AWL.y rfl rfl (B rfl) (Yv.move rfl (E rfl rfl)) ?_
    refine AWL.call rfl rfl (B rfl) rfl ce_58 (E rfl rfl) (evsC (E rfl rfl) evs0) (S1 := [Ent.box b 68 (rdCells bs (immS bs r j).2)]) (S2 := _) rfl (next63 b bs (immS bs r j).2 hb (imm_ok hr j)) ?_
    rintro t14 S14 ⟨rfl, rfl⟩
    refine AWL.y rfl rfl (B rfl) (Yv.convN_u64 rfl Tryd.underlying3 kd_78 (E rfl rfl) (fun hg => by omega)) ?_
    refine AWL.y rfl rfl (B rfl) (Yv.move rfl (E rfl rfl)) ?_
    refine AWL.y rfl rfl (B rfl) (Yv.mulN_i64 rfl (E rfl rfl) (E rfl rfl) (fun hg => by omega)) ?_
    refine AWL.y rfl rfl (B rfl) (Yv.shl rfl (E rfl rfl) (E rfl rfl) (fun hg => by omega)) ?_
    refine AWL.y rfl rfl (B rfl) (Yv.bits rfl rfl (E rfl rfl) (E rfl rfl)) ?_
    rw [or_shl (by omega) hn0 hn1 hv0 hv1]
    refine AWL.y rfl rfl (B rfl) (Yv.assign rfl (E rfl rfl)) ?_
    refine AWL.nil ?_
    refine AW.region ?_
    refine AWL.y rfl rfl (B rfl) (Yv.addN_i64 rfl (E rfl rfl) (E rfl rfl) (fun hg => by omega)) ?_
    refine AWL.y rfl rfl (B rfl) (Yv.move rfl (E rfl rfl)) ?_
    refine AWL.nil ?_
    exact ⟨j + 1, by omega, by omega, Sub.cons rfl rfl (Sub.cons rfl rfl (Sub.cons rfl rfl (Sub.cons rfl rfl (Sub.cons rfl (by simp) Sub.nil)))), rfl⟩
   try replace h0f := of_decide_eq_false h0f
   refine AW.exit ?_
   obtain rfl : j = k := by omega
   obtain ⟨hn0, hn1⟩ := imm_range bs r j
   refine AW.rseq ?_
   refine AWL.y rfl rfl (B rfl) (Yv.move rfl (E rfl rfl)) ?_
   refine AWL.y rfl rfl (B rfl) (Yv.mulN_i64 rfl (E rfl rfl) (E rfl rfl) (fun hg => by omega)) ?_
   refine AWL.y rfl rfl (B rfl) (Yv.subN_i64 rfl (E rfl rfl) (E rfl rfl) (fun hg => by omega)) ?_
   refine AWL.y rfl rfl (B rfl) (Yv.assign rfl (E rfl rfl)) ?_
   refine AWL.nil ?_
   refine AW.rseq ?_
   refine AWL.y rfl rfl (B rfl) (Yv.move rfl (E rfl rfl)) ?_
   refine AWL.y rfl rfl (B rfl) (Yv.move rfl (E rfl rfl)) ?_
   refine AWL.y rfl rfl (B rfl) (Yv.shl rfl (E rfl rfl) (E rfl rfl) (fun hg => by omega)) ?_
   refine AWL.y rfl rfl (B rfl) (Yv.conv rfl Tryd.underlying78 kd_2 (E rfl rfl)) ?_
   refine AWL.y rfl rfl (B rfl) (Yv.move rfl (E rfl rfl)) ?_
   refine AWL.y rfl rfl (B rfl) (Yv.shr rfl (E rfl rfl) (E rfl rfl) (fun hg => by omega)) ?_
   refine AWL.y rfl rfl (B rfl) (Yv.assign rfl (E rfl rfl)) ?_
   refine AWL.nil ?_
   refine AW.ret (retI (.tmp rfl .nil) ?_)
   refine ⟨?_, rfl⟩
   show T.v (.int .i64 _) = T.v (.int .i64 _)
   rw [immV, ← sgn_eq hk hn0 hn1]

set_option maxHeartbeats 400000 in
theorem two78 (b : Nat) (bs : List UInt8) (r : Rd) (hb : bs.length ≤ 1099511627776) (hr : RdOk bs r) (x : Rx) :
    ACalls Tryd.prog 78 [.v (.pointer (some ⟨b, 0, none⟩)), rxT x] [Ent.box b 68 (rdCells bs r)] (fun t_ S => t_ = .tup [.v (.int .i64 (twoV bs x r).1), .v (.int .i64 (twoV bs x r).2)] ∧ ∃ E, S = Ent.box b 68 (rdCells bs (twoD bs r)) :: E) := by
  obtain ⟨hx0, hx1⟩ := next_range bs r
  refine ACalls.intro Tryd.func78 rfl Tryd.ntmps78 (Nat.le_of_ble_eq_true rfl) rfl fun X w0 => ?_
  refine AW.rseq ?_
  refine AWL.boxOp rfl rfl (B rfl) rfl (E rfl rfl) rfl (fun b3 => ?_)
  refine AWL.y rfl rfl (B rfl) (Yv.assign rfl (E rfl rfl)) ?_
  refine AWL.y rfl rfl (B rfl) (Yv.assign rfl (E rfl rfl)) ?_
  refine AWL.nil ?_
  refine AW.rseq ?_
  refine AWL.y rfl rfl (B rfl) (Yv.move rfl (E rfl rfl)) ?_
  refine AWL.call rfl rfl (B rfl) rfl ce_58 (E rfl rfl) (evsC (E rfl rfl) evs0) (S1 := [Ent.box b 68 (rdCells bs r)]) (S2 := _) rfl (next63 b bs r hb hr) ?_
  rintro t8 S8 ⟨rfl, rfl⟩
  refine AWL.y rfl rfl (B rfl) (Yv.assign rfl (E rfl rfl)) ?_
  refine AWL.nil ?_
  refine AW.rseq ?_
  refine AWL.y rfl rfl (B rfl) (Yv.move rfl (E rfl rfl)) ?_
  refine AWL.y rfl rfl (B rfl) (Yv.move rfl (E rfl rfl)) ?_
  refine AWL.y rfl rfl (B rfl) (Yv.shrC 64 (by decide) (by decide) (by decide) rfl (E rfl rfl) (E rfl rfl)) ?_
  refine AWL.y rfl rfl (B rfl) (Yv.eql rfl (E rfl rfl) (E rfl rfl)) ?_
  refine AWL.call rfl rfl (B rfl) rfl ce_59 (E rfl rfl) (evsC (E rfl rfl) (evsC (E rfl rfl) evs0)) (S1 := [Ent.box b 68 (rdCells bs (nextF bs r).2)]) (S2 := _) rfl (must64 b bs (nextF bs r).2 (decide ((nextF bs r).1 / 64 = 3))) ?_
  rintro t13 S13 rfl
  refine AWL.nil ?_
  refine AW.rseqQ rfl (by kernel_rfl) ?_
  refine AWQ.y rfl rfl (B rfl) (Yv.fieldBox rfl fo_87_1 (E rfl rfl)) ?_
  refine AWQ.y rfl rfl (B rfl) (Yv.loadBox rfl ag_3 (i := 1) rfl (E rfl rfl) rfl) ?_
  refine AWQ.y rfl rfl (B rfl) (Yv.move rfl (E rfl rfl)) ?_
  refine AWQ.y rfl rfl (B rfl) (Yv.shrC 8 (by decide) (by decide) (by decide) rfl (E rfl rfl) (E rfl rfl)) ?_
  refine AWQ.y rfl rfl (B rfl) (Yv.andN_i64 3 8 (by decide) (by decide) (by decide) rfl (E rfl rfl) (E rfl rfl) (fun hg => ⟨by omega, by omega⟩)) ?_
  refine AWQ.y rfl rfl (B rfl) (Yv.bits rfl rfl (E rfl rfl) (E rfl rfl)) ?_
  refine AWQ.y rfl rfl (B rfl) (Yv.fieldBox rfl fo_87_2 (E rfl rfl)) ?_
  refine AWQ.y rfl rfl (B rfl) (Yv.loadBox rfl ag_3 (i := 1) rfl (E rfl rfl) rfl) ?_
  refine AWQ.y rfl rfl (B rfl) (Yv.move rfl (E rfl rfl)) ?_
  refine AWQ.y rfl rfl (B rfl) (Yv.andN_i64 3 8 (by decide) (by decide) (by decide) rfl (E rfl rfl) (E rfl rfl) (fun hg => ⟨by omega, by omega⟩)) ?_
  refine AWQ.y rfl rfl (B rfl) (Yv.bits rfl rfl (E rfl rfl) (E rfl rfl)) ?_
  refine AWQ.y rfl rfl (B rfl) (Yv.assign rfl (E rfl rfl)) ?_
  refine AWQ.y rfl rfl (B rfl) (Yv.assign rfl (E rfl rfl)) ?_
  refine AWQ.nil ?_
  refine AW.ret (retI (.tmp rfl (.tmp rfl .nil)) ?_)
  exact ⟨rfl, _, rfl⟩

set_option maxHeartbeats 400000 in
theorem one76 (b : Nat) (bs : List UInt8) (r : Rd) (hb : bs.length ≤ 1099511627776) (hr : RdOk bs r) (x : Rx) :
    ACalls Tryd.prog 76 [.v (.pointer (some ⟨b, 0, none⟩)), rxT x] [Ent.box b 68 (rdCells bs r)] (fun t_ S => t_ = .tup [.v (.int .i64 (oneV bs x r).1), .v (.int .i64 (oneV bs x r).2)] ∧ ∃ E, S = Ent.box b 68 (rdCells bs (oneD bs x r)) :: E) := by
  refine ACalls.intro Tryd.func76 rfl Tryd.ntmps76 (Nat.le_of_ble_eq_true rfl) rfl fun X w0 => ?_
  refine AW.rseq ?_
  refine AWL.boxOp rfl rfl (B rfl) rfl (E rfl rfl) rfl (fun b3 => ?_)
  refine AWL.y rfl rfl (B rfl) (Yv.assign rfl (E rfl rfl)) ?_
  refine AWL.y rfl rfl (B rfl) (Yv.assign rfl (E rfl rfl)) ?_
  refine AWL.nil ?_
  refine AW.rseq ?_
  refine AWL.y rfl rfl (B rfl) (Yv.move rfl (E rfl rfl)) ?_
  refine AWL.y rfl rfl (B rfl) (Yv.fieldBox rfl fo_87_1 (E rfl rfl)) ?_
  refine AWL.y rfl rfl (B rfl) (Yv.loadBox rfl ag_3 (i := 1) rfl (E rfl rfl) rfl) ?_
  refine AWL.y rfl rfl (B rfl) (Yv.eql rfl (E rfl rfl) (E rfl rfl)) ?_
  refine AWL.call rfl rfl (B rfl) rfl ce_59 (E rfl rfl) (evsC (E rfl rfl) (evsC (E rfl rfl) evs0)) (S1 := [Ent.box b 68 (rdCells bs r)]) (S2 := _) rfl (must64 b bs r (decide (x.reg = 0))) ?_
  rintro t10 S10 rfl
  refine AWL.nil ?_
  refine AW.rseq ?_
  refine AWL.y rfl rfl (B rfl) (Yv.move rfl (E rfl rfl)) ?_
  refine AWL.y rfl rfl (B rfl) (Yv.loadBoxA rfl ag_87 (i := 1) rfl (E rfl rfl) rfl rfl) ?_
  refine AWL.call rfl rfl (B rfl) rfl ce_78 (E rfl rfl) (evsC (E rfl rfl) (evsC (E rfl rfl) evs0)) (S1 := [Ent.box b 68 (rdCells bs (mustF r (decide (x.reg = 0))))]) (S2 := _) rfl (two78 b bs (mustF r (decide (x.reg = 0))) hb (must_ok hr _) x) ?_
  rintro t14 S14 ⟨rfl, E14, rfl⟩
  refine AWL.tuck ?_
  refine AWL.y rfl rfl (B rfl) (Yv.move rfl (E rfl rfl)) ?_
  refine AWL.y rfl rfl (B rfl) (Yv.extract rfl (E rfl rfl) rfl) ?_
  refine AWL.y rfl rfl (B rfl) (Yv.extract rfl (E rfl rfl) rfl) ?_
  refine AWL.y rfl rfl (B rfl) (Yv.assign rfl (E rfl rfl)) ?_
  refine AWL.y rfl rfl (B rfl) (Yv.assign rfl (E rfl rfl)) ?_
  refine AWL.nil ?_
  refine AW.rseq ?_
  refine AWL.y rfl rfl (B rfl) (Yv.move rfl (E rfl rfl)) ?_
  refine AWL.y rfl rfl (B rfl) (Yv.move rfl (E rfl rfl)) ?_
  refine AWL.y rfl rfl (B rfl) (Yv.assign rfl (E rfl rfl)) ?_
  refine AWL.y rfl rfl (B rfl) (Yv.assign rfl (E rfl rfl)) ?_
  refine AWL.nil ?_
  refine AW.ret (retI (.tmp rfl (.tmp rfl .nil)) ?_)
  exact ⟨rfl, _, rfl⟩

set_option maxHeartbeats 1000000 in
theorem mem74 (b : Nat) (bs : List UInt8) (r : Rd) (hb : bs.length ≤ 1099511627776) (hr : RdOk bs r) (x : Rx) :
    ACalls Tryd.prog 74 [.v (.pointer (some ⟨b, 0, none⟩)), rxT x] [Ent.box b 68 (rdCells bs r)] (fun t_ S => t_ = .tup [.v (.int .i64 (memV bs x r).1), .v (.int .i64 (memV bs x r).2.1), .v (.int .i64 (memV bs x r).2.2)] ∧ ∃ E, S = Ent.box b 68 (rdCells bs (memD bs r)) :: E) := by
  obtain ⟨hx0, hx1⟩ := next_range bs r
  have hok1 : RdOk bs (memD1 bs r) := must_ok (next_ok hr) _
  have hok2 : RdOk bs (memD2 bs r) := by
    unfold memD2
    split
    · exact must_ok (next_ok hok1) _
    · exact hok1
  refine ACalls.intro Tryd.func74 rfl Tryd.ntmps74 (Nat.le_of_ble_eq_true rfl) rfl fun X w0 => ?_
  refine AW.rseq ?_
  refine AWL.boxOp rfl rfl (B rfl) rfl (E rfl rfl) rfl (fun b3 => ?_)
  refine AWL.y rfl rfl (B rfl) (Yv.assign rfl (E rfl rfl)) ?_
  refine AWL.y rfl rfl (B rfl) (Yv.assign rfl (E rfl rfl)) ?_
  refine AWL.y rfl rfl (B rfl) (Yv.assign rfl (E rfl rfl)) ?_
  refine AWL.nil ?_
  refine AW.rseq ?_
  refine AWL.y rfl rfl (B rfl) (Yv.move rfl (E rfl rfl)) ?_
  refine AWL.call rfl rfl (B rfl) rfl ce_58 (E rfl rfl) (evsC (E rfl rfl) evs0) (S1 := [Ent.box b 68 (rdCells bs r)]) (S2 := _) rfl (next63 b bs r hb hr) ?_
  rintro t9 S9 ⟨rfl, rfl⟩
  refine AWL.y rfl rfl (B rfl) (Yv.assign rfl (E rfl rfl)) ?_
  refine AWL.nil ?_
  refine AW.rseq ?_
  refine AWL.y rfl rfl (B rfl) (Yv.move rfl (E rfl rfl)) ?_
  refine AWL.y rfl rfl (B rfl) (Yv.move rfl (E rfl rfl)) ?_
  refine AWL.y rfl rfl (B rfl) (Yv.shrC 64 (by decide) (by decide) (by decide) rfl (E rfl rfl) (E rfl rfl)) ?_
  refine AWL.y rfl rfl (B rfl) (Yv.eql rfl (E rfl rfl) (E rfl rfl)) ?_
  refine AWL.call rfl rfl (B rfl) rfl ce_59 (E rfl rfl) (evsC (E rfl rfl) (evsC (E rfl rfl) evs0)) (S1 := [Ent.box b 68 (rdCells bs (nextF bs r).2)]) (S2 := _) rfl (must64 b bs (nextF bs r).2 (decide ((nextF bs r).1 / 64 = 2))) ?_
  rintro t14 S14 rfl
  refine AWL.nil ?_
  refine AW.mid (α := Unit) (fun _ => [(0, true, .v (.pointer (some ⟨b, 0, none⟩))), (3, true, .v (.pointer (some ⟨b3, 0, none⟩))), (7, true, .v (.int .i64 (nextF bs r).1))]) (fun _ => [Ent.box b 68 (rdCells bs (memD2 bs r)), .box b3 87 (rxCells x)]) (fun _ => True) ?_ ?_
  ·
   refine AW.rseq ?_
   refine AWL.y rfl rfl (B rfl) (Yv.move rfl (E rfl rfl)) ?_
   refine AWL.y rfl rfl (B rfl) (Yv.andN_i64 3 8 (by decide) (by decide) (by decide) rfl (E rfl rfl) (E rfl rfl) (fun hg => ⟨by omega, by omega⟩)) ?_
   refine AWL.y rfl rfl (B rfl) (Yv.eql rfl (E rfl rfl) (E rfl rfl)) ?_
   refine AWL.nil ?_
   refine AW.cond rfl (fun h0t => ?_) (fun h0f => ?_)
   ·
    try replace h0t := of_decide_eq_true h0t
    replace h0t : (nextF bs r).1 % 8 = 4 := h0t
    refine AW.region ?_
    refine AWL.y rfl rfl (B rfl) (Yv.move rfl (E rfl rfl)) ?_
    refine AWL.y rfl rfl (B rfl) (Yv.move rfl (E rfl rfl)) ?_
    refine AWL.call rfl rfl (B rfl) rfl ce_58 (E rfl rfl) (evsC (E rfl rfl) evs0) (S1 := [Ent.box b 68 (rdCells bs (memD1 bs r))]) (S2 := _) rfl (next63 b bs (memD1 bs r) hb hok1) ?_
    rintro t20 S20 ⟨rfl, rfl⟩
    refine AWL.y rfl rfl (B rfl) (Yv.eql rfl (E rfl rfl) (E rfl rfl)) ?_
    refine AWL.call rfl rfl (B rfl) rfl ce_59 (E rfl rfl) (evsC (E rfl rfl) (evsC (E rfl rfl) evs0)) (S1 := [Ent.box b 68 (rdCells bs (nextF bs (memD1 bs r)).2)]) (S2 := _) rfl (must64 b bs (nextF bs (memD1 bs r)).2 (decide ((nextF bs (memD1 bs r)).1 = 36))) ?_
    rintro t22 S22 rfl
    refine AWL.nil ?_
    refine ⟨(), trivial, (Sub.cons rfl rfl (Sub.cons rfl rfl (Sub.cons rfl rfl Sub.nil))), ?_⟩
    rw [memD2, if_pos h0t]
    rfl
   try replace h0f := of_decide_eq_false h0f
   replace h0f : ¬ (nextF bs r).1 % 8 = 4 := h0f
   refine AW.skip ?_
   refine ⟨(), trivial, (Sub.cons rfl rfl (Sub.cons rfl rfl (Sub.cons rfl rfl Sub.nil))), ?_⟩
   rw [memD2, if_neg h0f]
   rfl
  ·
   rintro _ hmid
   refine AW.rseqH (HeldBox b3 (rxVals x)) rfl (tells_box (k := 1) rfl) ?_
   refine AWH.tk (i := 0) rfl rfl rfl (B rfl) (heldAll (freeField rfl fo_87_1 (E rfl rfl))) ?_
   refine AWH.tk (i := 1) rfl rfl rfl (B rfl) (heldLoad rfl ag_3 (E rfl rfl) rfl) ?_
   refine AWH.tk (i := 2) rfl rfl rfl (B rfl) (heldAll (freeMove rfl (E rfl rfl))) ?_
   refine AWH.tk (i := 3) rfl rfl rfl (B rfl) (heldAll (freeShrC 8 (by decide) (by decide) (by decide) rfl (E rfl rfl) (E rfl rfl))) ?_
   refine AWH.tk (i := 4) rfl rfl rfl (B rfl) (heldAll (freeAndN_i64 3 8 (by decide) (by decide) (by decide) rfl (E rfl rfl) (E rfl rfl) ⟨by omega, by omega⟩)) ?_
   refine AWH.tk (i := 5) rfl rfl rfl (B rfl) (heldAll (freeBits rfl rfl (E rfl rfl) (E rfl rfl))) ?_
   refine AWH.tk (i := 6) rfl rfl rfl (B rfl) (heldAll (freeField rfl fo_87_2 (E rfl rfl))) ?_
   refine AWH.tk (i := 7) rfl rfl rfl (B rfl) (heldLoad rfl ag_3 (E rfl rfl) rfl) ?_
   refine AWH.tk (i := 8) rfl rfl rfl (B rfl) (heldAll (freeMove rfl (E rfl rfl))) ?_
   refine AWH.tk (i := 9) rfl rfl rfl (B rfl) (heldAll (freeAndN_i64 3 8 (by decide) (by decide) (by decide) rfl (E rfl rfl) (E rfl rfl) ⟨by omega, by omega⟩)) ?_
   refine AWH.tk (i := 10) rfl rfl rfl (B rfl) (heldAll (freeBits rfl rfl (E rfl rfl) (E rfl rfl))) ?_
   refine AWH.one (i := 11) (by kernel_rfl) rfl ?_
   refine AWL.y rfl rfl (B rfl) (Yv.move rfl (E rfl rfl)) ?_
   refine tb 1 rfl ?_
   refine AWH.one (i := 12) (by kernel_rfl) rfl ?_
   refine AWL.call rfl rfl (B rfl) rfl ce_63 (E rfl rfl) (evsC (E rfl rfl) (evsC (E rfl rfl) evs0)) (S1 := [Ent.box b 68 (rdCells bs (memD2 bs r))]) (S2 := _) rfl (imm68 b bs (memD2 bs r) hb hok2 4 (.inr (.inl rfl))) ?_
   rintro t35 S35 ⟨rfl, rfl⟩
   refine tb 1 rfl ?_
   refine AWH.one (i := 13) (by kernel_rfl) rfl ?_
   refine AWL.y rfl rfl (B rfl) (Yv.assign rfl (E rfl rfl)) ?_
   refine tb 1 rfl ?_
   refine AWH.one (i := 14) (by kernel_rfl) rfl ?_
   refine AWL.y rfl rfl (B rfl) (Yv.assign rfl (E rfl rfl)) ?_
   refine tb 1 rfl ?_
   refine AWH.one (i := 15) (by kernel_rfl) rfl ?_
   refine AWL.y rfl rfl (B rfl) (Yv.assign rfl (E rfl rfl)) ?_
   refine tb 1 rfl ?_
   refine AWH.done (by kernel_rfl) ?_
   refine AW.ret (retI (.tmp rfl (.tmp rfl (.tmp rfl .nil))) ?_)
   exact ⟨rfl, _, rfl⟩

end Go.Proofs.YtjndpakhmgapjaaDoor
