/-
  CONTRACTS of the heap package: the document's reader; walked by program.
-/
import Derived.Test.YtbndnmmceccbkaaWk17
import Derived.Test.YtbndnmmceccbkaaWk12
namespace Go.Proofs.Ytbndnmmceccbkaa
open Go Go.RowKit
set_option linter.unusedVariables false

set_option maxHeartbeats 400000 in
theorem refRef51 (b : List UInt8) (a : Int) (row : List Int) (bm br : Nat) (A : Option Addr) (c : Nat) (x : Int) (h0 : 0 ≤ x) (h1 : x ≤ 18446744073709551615) (hr : row.length ≤ 1099511627776) :
    ACalls Try.prog 51 [.v (vp br), .v (.int .u64 x)] (RQ bm br b a A c row) (fun t_ S => t_ = .agg (refCells (valR row x).2) ∧ ∃ A' c' E, S = (RQ bm br b a A' c' (valR row x).1) ++ [E]) := by
  refine ACalls.intro Try.func51 rfl Try.ntmps51 (Nat.le_of_ble_eq_true rfl) rfl fun X w0 => ?_
  refine AW.rseq ?_
  refine AWL.allocOp rfl rfl (B rfl) rfl zc_54 (fun b4 => ?_)
  refine AWL.nil ?_
  refine AW.seq ?_
  refine AW.rseq ?_
  refine AWL.y rfl rfl (B rfl) (Yv.move rfl (E rfl rfl)) ?_
  refine AWL.y rfl rfl (B rfl) (Yv.remN rfl (E rfl rfl) (E rfl rfl) (fun hg => by omega)) ?_
  refine AWL.y rfl rfl (B rfl) (Yv.eql rfl (E rfl rfl) (E rfl rfl)) ?_
  refine AWL.nil ?_
  refine AW.cond rfl (fun h0t => ?_) (fun h0f => ?_)
  ·
    try replace h0t := of_decide_eq_true h0t
    refine AW.rseq ?_
    refine AWL.y rfl rfl (B rfl) (Yv.move rfl (E rfl rfl)) ?_
    refine AWL.y rfl rfl (B rfl) (Yv.conv rfl Try.underlying29 kd_2 (E rfl rfl)) ?_
    refine AWL.y rfl rfl (B rfl) (Yv.shrC 2 (by decide) (by decide) (by decide) rfl (E rfl rfl) (E rfl rfl)) ?_
    refine AWL.y rfl rfl (B rfl) (Yv.buildS rfl sh_54 (evpC (E rfl rfl) (evpC (E rfl rfl) evp0)) (fun _ => rfl)) ?_
    refine AWL.storeBox (i := 3) rfl rfl rfl ag_54 rfl (E rfl rfl) (E rfl rfl) rfl rfl (Nat.le_of_ble_eq_true rfl) ?_
    refine AWL.nil ?_
    refine AW.ret (retI (.cellA (i := 3) rfl ag_54 rfl rfl rfl .nil) ?_)
    rw [valR_odd h0t]
    exact ⟨rfl, A, c, _, rfl⟩
  ·
    try replace h0f := of_decide_eq_false h0f
    refine AW.skip ?_
    refine AW.rseq ?_
    refine AWL.y rfl rfl (B rfl) (Yv.move rfl (E rfl rfl)) ?_
    refine AWL.y rfl rfl (B rfl) (Yv.nilChk rfl (E rfl rfl)) ?_
    refine AWL.y rfl rfl (B rfl) (Yv.fieldBox rfl fo_77_2 (E rfl rfl)) ?_
    refine AWL.y rfl rfl (B rfl) (Yv.loadBox rfl ag_75 (i := 1) rfl (E rfl rfl) rfl) ?_
    refine AWL.y rfl rfl (B rfl) (Yv.move rfl (E rfl rfl)) ?_
    refine AWL.y rfl rfl (B rfl) (Yv.lookup2 (k := .i _ _) (i := 0) rfl mp_75 rfl (E rfl rfl) (E rfl rfl) rfl (mapE_good _ _ _)) ?_
    rw [getK_mapE]
    refine AWL.y rfl rfl (B rfl) (Yv.move rfl (E rfl rfl)) ?_
    refine AWL.y rfl rfl (B rfl) (Yv.extract rfl (E rfl rfl) rfl) ?_
    refine AWL.y rfl rfl (B rfl) (Yv.extract rfl (E rfl rfl) rfl) ?_
    refine AWL.y rfl rfl (B rfl) (Yv.assign rfl (E rfl rfl)) ?_
    refine AWL.y rfl rfl (B rfl) (Yv.assign rfl (E rfl rfl)) ?_
    refine AWL.nil ?_
    refine AW.seq ?_
    refine AW.rseq ?_
    refine AWL.y rfl rfl (B rfl) (Yv.move rfl (E rfl rfl)) ?_
    refine AWL.y rfl rfl (B rfl) (Yv.not rfl (E rfl rfl)) ?_
    refine AWL.nil ?_
    rcases hix : ixOf row x with _ | ix
    ·
      refine AW.cond rfl (fun h1t => ?_) (fun h1f => ?_)
      ·
        refine AW.rseq ?_
        refine AWL.y rfl rfl (B rfl) (Yv.move rfl (E rfl rfl)) ?_
        refine AWL.y rfl rfl (B rfl) (Yv.nilChk rfl (E rfl rfl)) ?_
        refine AWL.y rfl rfl (B rfl) (Yv.fieldBox rfl fo_77_3 (E rfl rfl)) ?_
        refine AWL.y rfl rfl (B rfl) (Yv.loadBox rfl ag_41 (i := 1) rfl (E rfl rfl) rfl) ?_
        refine AWL.y rfl rfl (B rfl) (Yv.lenV rfl so_41 (E rfl rfl)) ?_
        refine AWL.y rfl rfl (B rfl) (Yv.assign rfl (E rfl rfl)) ?_
        refine AWL.nil ?_
        refine AW.rseq ?_
        refine AWL.y rfl rfl (B rfl) (Yv.move rfl (E rfl rfl)) ?_
        refine AWL.y rfl rfl (B rfl) (Yv.nilChk rfl (E rfl rfl)) ?_
        refine AWL.y rfl rfl (B rfl) (Yv.fieldBox rfl fo_77_2 (E rfl rfl)) ?_
        refine AWL.y rfl rfl (B rfl) (Yv.loadBox rfl ag_75 (i := 1) rfl (E rfl rfl) rfl) ?_
        refine AWL.y rfl rfl (B rfl) (Yv.move rfl (E rfl rfl)) ?_
        refine AWL.y rfl rfl (B rfl) (Yv.move rfl (E rfl rfl)) ?_
        refine AWL.mapUpd (k := .i _ _) (i := 0) rfl rfl (.inl rfl) mp_75 rfl (E rfl rfl) (E rfl rfl) (E rfl rfl) rfl rfl (mapE_good _ _ _) ?_
        refine AWL.nil ?_
        refine AW.region ?_
        refine AWL.y rfl rfl (B rfl) (Yv.move rfl (E rfl rfl)) ?_
        refine AWL.y rfl rfl (B rfl) (Yv.move rfl (E rfl rfl)) ?_
        refine AWL.y rfl rfl (B rfl) (Yv.nilChk rfl (E rfl rfl)) ?_
        refine AWL.y rfl rfl (B rfl) (Yv.fieldBox rfl fo_77_3 (E rfl rfl)) ?_
        refine AWL.y rfl rfl (B rfl) (Yv.loadBox rfl ag_41 (i := 1) rfl (E rfl rfl) rfl) ?_
        refine AWL.y rfl rfl (B rfl) (Yv.move rfl (E rfl rfl)) ?_
        refine AWL.buildSlice1 rfl rfl (B rfl) rfl el_41 rfl (evsC (E rfl rfl) evs0) (Nat.le_of_ble_eq_true rfl) rfl rfl ?_
        refine AWL.appendRow (i := 2) rfl rfl (B rfl) rfl el_41 (B rfl) rfl (E rfl rfl) (SrcT.sl so_41 (B rfl) (E rfl rfl) rfl) (by unfold maxLen; omega) (by omega) (fun A43 c43 => ?_)
        refine AWL.y rfl rfl (B rfl) (Yv.nilChk rfl (E rfl rfl)) ?_
        refine AWL.y rfl rfl (B rfl) (Yv.fieldBox rfl fo_77_3 (E rfl rfl)) ?_
        refine AWL.storeBox (i := 1) rfl rfl rfl ag_41 rfl (E rfl rfl) (E rfl rfl) rfl rfl (Nat.le_of_ble_eq_true rfl) ?_
        refine AWL.nil ?_
        refine AW.rseq ?_
        refine AWL.y rfl rfl (B rfl) (Yv.move rfl (E rfl rfl)) ?_
        refine AWL.y rfl rfl (B rfl) (Yv.buildS rfl sh_54 (evpC (E rfl rfl) (evpC (E rfl rfl) evp0)) (fun _ => rfl)) ?_
        refine AWL.storeBox (i := 3) rfl rfl rfl ag_54 rfl (E rfl rfl) (E rfl rfl) rfl rfl (Nat.le_of_ble_eq_true rfl) ?_
        refine AWL.nil ?_
        refine AW.ret (retI (.cellA (i := 3) rfl ag_54 rfl rfl rfl .nil) ?_)
        have e3 := putK_mapE .u64 x row 0 hix
        rw [Nat.zero_add] at e3
        rw [valR_new h0f hix]
        exact ⟨rfl, A43, c43, _, (congrArg (fun q => q ++ [_]) (RQ_new e3)).symm⟩
      · exact absurd h1f (by simp)
    ·
      refine AW.cond rfl (fun h1t => ?_) (fun h1f => ?_)
      · exact absurd h1t (by simp)
      ·
        refine AW.skip ?_
        refine AW.rseq ?_
        refine AWL.y rfl rfl (B rfl) (Yv.move rfl (E rfl rfl)) ?_
        refine AWL.y rfl rfl (B rfl) (Yv.buildS rfl sh_54 (evpC (E rfl rfl) (evpC (E rfl rfl) evp0)) (fun _ => rfl)) ?_
        refine AWL.storeBox (i := 3) rfl rfl rfl ag_54 rfl (E rfl rfl) (E rfl rfl) rfl rfl (Nat.le_of_ble_eq_true rfl) ?_
        refine AWL.nil ?_
        refine AW.ret (retI (.cellA (i := 3) rfl ag_54 rfl rfl rfl .nil) ?_)
        have e2 : refCells ⟨2, (ix : Int)⟩ = [.v (.int .i64 2), .v (.int .i64 ((0 + ix : Nat) : Int))] := by rw [Nat.zero_add]; rfl
        rw [valR_in h0f hix, e2]
        exact ⟨rfl, A, c, _, rfl⟩

set_option maxHeartbeats 400000 in
theorem refAt60 (b : List UInt8) (a : Int) (row : List Int) (bm br : Nat) (A : Option Addr) (c : Nat) (x : Int) (h0 : 0 ≤ x) (h1 : x ≤ 18446744073709551615) (hb : b.length ≤ 1099511627) (ha0 : 0 ≤ a) (ha1 : a + b.length ≤ 9223372036854775808) :
    ACalls Try.prog 60 [.v (vp br), .v (.int .u64 x)] (RQ bm br b a A c row) (fun t_ S => t_ = .tup [.v (.int .u64 (atR b a x)), .v (.bool (!outR b a x))] ∧ S = (RQ bm br b a A c row)) := by
  refine ACalls.intro Try.func60 rfl Try.ntmps60 (Nat.le_of_ble_eq_true rfl) rfl fun X w0 => ?_
  refine AW.rseq ?_
  refine AWL.y rfl rfl (B rfl) (Yv.assign rfl (E rfl rfl)) ?_
  refine AWL.y rfl rfl (B rfl) (Yv.assign rfl (E rfl rfl)) ?_
  refine AWL.nil ?_
  refine AW.seq ?_
  refine AW.rseqQ rfl (by kernel_rfl) ?_
  refine AWQ.y rfl rfl (B rfl) (Yv.move rfl (E rfl rfl)) ?_
  refine AWQ.y rfl rfl (B rfl) (Yv.move rfl (E rfl rfl)) ?_
  refine AWQ.y rfl rfl (B rfl) (Yv.nilChk rfl (E rfl rfl)) ?_
  refine AWQ.y rfl rfl (B rfl) (Yv.fieldBox rfl fo_77_1 (E rfl rfl)) ?_
  refine AWQ.y rfl rfl (B rfl) (Yv.loadBox rfl ag_29 (i := 1) rfl (E rfl rfl) rfl) ?_
  refine AWQ.y rfl rfl (B rfl) (Yv.lss rfl (E rfl rfl) (E rfl rfl)) ?_
  refine AWQ.y rfl rfl (B rfl) (Yv.move rfl (E rfl rfl)) ?_
  refine AWQ.ygF rfl rfl rfl rfl (B rfl) (Yv.move rfl (E rfl rfl)) ?_
  refine AWQ.ygF rfl rfl rfl rfl (B rfl) (Yv.move rfl (E rfl rfl)) ?_
  refine AWQ.ygF rfl rfl rfl rfl (B rfl) (Yv.nilChk rfl (Eg rfl rfl id)) ?_
  refine AWQ.ygF rfl rfl rfl rfl (B rfl) (Yv.fieldBox rfl fo_77_1 (Eg rfl rfl id)) ?_
  refine AWQ.ygF rfl rfl rfl rfl (B rfl) (Yv.loadBox rfl ag_29 (i := 1) rfl (Eg rfl rfl id) rfl) ?_
  refine AWQ.ygF rfl rfl rfl rfl (B rfl) (Yv.subN_u64 rfl (Eg rfl rfl id) (Eg rfl rfl id) (fun hg => by first | omega | (simp only [Bool.and_eq_true, Bool.or_eq_false_iff, Bool.not_eq_true', Bool.not_eq_false', decide_eq_true_eq, decide_eq_false_iff_not] at hg; omega))) ?_
  refine AWQ.ygF rfl rfl rfl rfl (B rfl) (Yv.move rfl (E rfl rfl)) ?_
  refine AWQ.ygF rfl rfl rfl rfl (B rfl) (Yv.nilChk rfl (Eg rfl rfl id)) ?_
  refine AWQ.ygF rfl rfl rfl rfl (B rfl) (Yv.fieldBox rfl fo_77_0 (Eg rfl rfl id)) ?_
  refine AWQ.ygF rfl rfl rfl rfl (B rfl) (Yv.loadBox rfl ag_40 (i := 1) rfl (Eg rfl rfl id) rfl) ?_
  refine AWQ.ygF rfl rfl rfl rfl (B rfl) (Yv.lenSl rfl so_40 (B rfl) (Eg rfl rfl id) len_u8s) ?_
  refine AWQ.ygF rfl rfl rfl rfl (B rfl) (Yv.convN_u64 rfl Try.underlying3 kd_29 (Eg rfl rfl id) (fun hg => by first | omega | (simp only [Bool.and_eq_true, Bool.or_eq_false_iff, Bool.not_eq_true', Bool.not_eq_false', decide_eq_true_eq, decide_eq_false_iff_not] at hg; omega))) ?_
  refine AWQ.ygF rfl rfl rfl rfl (B rfl) (Yv.gtr rfl (Eg rfl rfl id) (Eg rfl rfl id)) ?_
  refine AWQ.y rfl rfl (B rfl) (Yv.pickOr (t := .const (.bool true)) rfl (E rfl rfl) (Eg rfl rfl id)) ?_
  refine AWQ.y rfl rfl (B rfl) (Yv.move rfl (E rfl rfl)) ?_
  refine AWQ.ygF rfl rfl rfl rfl (B rfl) (Yv.move rfl (E rfl rfl)) ?_
  refine AWQ.ygF rfl rfl rfl rfl (B rfl) (Yv.nilChk rfl (Eg rfl rfl id)) ?_
  refine AWQ.ygF rfl rfl rfl rfl (B rfl) (Yv.fieldBox rfl fo_77_0 (Eg rfl rfl id)) ?_
  refine AWQ.ygF rfl rfl rfl rfl (B rfl) (Yv.loadBox rfl ag_40 (i := 1) rfl (Eg rfl rfl id) rfl) ?_
  refine AWQ.ygF rfl rfl rfl rfl (B rfl) (Yv.lenSl rfl so_40 (B rfl) (Eg rfl rfl id) len_u8s) ?_
  refine AWQ.ygF rfl rfl rfl rfl (B rfl) (Yv.convN_u64 rfl Try.underlying3 kd_29 (Eg rfl rfl id) (fun hg => by first | omega | (simp only [Bool.and_eq_true, Bool.or_eq_false_iff, Bool.not_eq_true', Bool.not_eq_false', decide_eq_true_eq, decide_eq_false_iff_not] at hg; omega))) ?_
  refine AWQ.ygF rfl rfl rfl rfl (B rfl) (Yv.move rfl (E rfl rfl)) ?_
  refine AWQ.ygF rfl rfl rfl rfl (B rfl) (Yv.move rfl (E rfl rfl)) ?_
  refine AWQ.ygF rfl rfl rfl rfl (B rfl) (Yv.nilChk rfl (Eg rfl rfl id)) ?_
  refine AWQ.ygF rfl rfl rfl rfl (B rfl) (Yv.fieldBox rfl fo_77_1 (Eg rfl rfl id)) ?_
  refine AWQ.ygF rfl rfl rfl rfl (B rfl) (Yv.loadBox rfl ag_29 (i := 1) rfl (Eg rfl rfl id) rfl) ?_
  refine AWQ.ygF rfl rfl rfl rfl (B rfl) (Yv.subN_u64 rfl (Eg rfl rfl id) (Eg rfl rfl id) (fun hg => by first | omega | (simp only [Bool.and_eq_true, Bool.or_eq_false_iff, Bool.not_eq_true', Bool.not_eq_false', decide_eq_true_eq, decide_eq_false_iff_not] at hg; omega))) ?_
  refine AWQ.ygF rfl rfl rfl rfl (B rfl) (Yv.subN_u64 rfl (Eg rfl rfl id) (Eg rfl rfl id) (fun hg => by first | omega | (simp only [Bool.and_eq_true, Bool.or_eq_false_iff, Bool.not_eq_true', Bool.not_eq_false', decide_eq_true_eq, decide_eq_false_iff_not] at hg; omega))) ?_
  refine AWQ.ygF rfl rfl rfl rfl (B rfl) (Yv.lss rfl (Eg rfl rfl id) (E rfl rfl)) ?_
  refine AWQ.y rfl rfl (B rfl) (Yv.pickOr (t := .const (.bool true)) rfl (E rfl rfl) (Eg rfl rfl id)) ?_
  refine AWQ.nil ?_
  refine AW.cond rfl (fun h0t => ?_) (fun h0f => ?_)
  ·
    try replace h0t := of_decide_eq_true h0t
    have hout : outR b a x = true := h0t
    refine AW.rseq ?_
    refine AWL.y rfl rfl (B rfl) (Yv.assign rfl (E rfl rfl)) ?_
    refine AWL.y rfl rfl (B rfl) (Yv.assign rfl (E rfl rfl)) ?_
    refine AWL.nil ?_
    refine AW.ret (retI (.tmp rfl (.tmp rfl .nil)) ?_)
    exact ⟨by rw [atR_out hout, hout]; rfl, rfl⟩
  ·
    try replace h0f := of_decide_eq_false h0f
    simp only [Bool.or_eq_true, Bool.and_eq_true, Bool.or_eq_false_iff, Bool.and_eq_false_iff, Bool.not_eq_true', Bool.not_eq_false', decide_eq_true_eq, decide_eq_false_iff_not, Decidable.not_not] at h0f
    have h0g := h0f
    have hout : outR b a x = false := by simp only [outR, Bool.or_eq_false_iff, decide_eq_false_iff_not]; exact h0g
    obtain ⟨o, ho⟩ : ∃ o : Nat, x - a = (o : Int) := ⟨(x - a).toNat, by omega⟩
    have hol : o + 8 ≤ b.length := by omega
    refine AW.skip ?_
    refine AW.rseq ?_
    refine AWL.y rfl rfl (B rfl) (Yv.move rfl (E rfl rfl)) ?_
    refine AWL.y rfl rfl (B rfl) (Yv.move rfl (E rfl rfl)) ?_
    refine AWL.y rfl rfl (B rfl) (Yv.nilChk rfl (E rfl rfl)) ?_
    refine AWL.y rfl rfl (B rfl) (Yv.fieldBox rfl fo_77_1 (E rfl rfl)) ?_
    refine AWL.y rfl rfl (B rfl) (Yv.loadBox rfl ag_29 (i := 1) rfl (E rfl rfl) rfl) ?_
    refine AWL.y rfl rfl (B rfl) (Yv.subN_u64 rfl (E rfl rfl) (E rfl rfl) (fun hg => by omega)) ?_
    refine AWL.y rfl rfl (B rfl) (Yv.assign rfl (E rfl rfl)) ?_
    refine AWL.nil ?_
    refine AW.retype (k := 6) (t' := .v (.int .u64 (o : Int))) rfl (fun w L u h => by rw [← ho]; exact h) ?_
    refine AW.rseq ?_
    refine AWL.y rfl rfl (B rfl) (Yv.move rfl (E rfl rfl)) ?_
    refine AWL.y rfl rfl (B rfl) (Yv.nilChk rfl (E rfl rfl)) ?_
    refine AWL.y rfl rfl (B rfl) (Yv.fieldBox rfl fo_77_0 (E rfl rfl)) ?_
    refine AWL.y rfl rfl (B rfl) (Yv.loadBox rfl ag_40 (i := 1) rfl (E rfl rfl) rfl) ?_
    refine AWL.y rfl rfl (B rfl) (Yv.move rfl (E rfl rfl)) ?_
    refine AWL.y rfl rfl (B rfl) (Yv.move rfl (E rfl rfl)) ?_
    refine AWL.y rfl rfl (B rfl) (Yv.addN_u64 rfl (E rfl rfl) (E rfl rfl) (fun hg => by omega)) ?_
    refine AWL.y rfl rfl (B rfl) (Yv.sliceMap rfl ss_40 (E rfl rfl) (Bound.some_ (j := o) (E rfl rfl) (fun hg => rfl)) (Bound.some_ (j := o + 8) (E rfl rfl) (fun hg => by omega)) (fun hg => ⟨by omega, by omega⟩)) ?_
    refine AWL.y rfl rfl (B rfl) (Yv.bytesStr rfl by_40 st_9 (E rfl rfl)) ?_
    refine AWL.callP rfl rfl (B rfl) rfl ce_57 (E rfl rfl) (evsC (E rfl rfl) evs0) (refNumber57 ((b.drop o).take (o + 8 - o)) (by rw [List.length_take]; omega)) (fun t S h => h) ?_
    refine AWL.y rfl rfl (B rfl) (Yv.assign rfl (E rfl rfl)) ?_
    refine AWL.y rfl rfl (B rfl) (Yv.assign rfl (E rfl rfl)) ?_
    refine AWL.nil ?_
    refine AW.ret (retI (.tmp rfl (.tmp rfl .nil)) ?_)
    exact ⟨by rw [atR_in ho hout, hout, wordAt, show o + 8 - o = 8 by omega]; rfl, rfl⟩

set_option maxHeartbeats 1000000 in
theorem refThing52 (b : List UInt8) (a : Int) (row : List Int) (bm br : Nat) (A : Option Addr) (c : Nat) (ws : List Int) (x : Int) (h0 : 0 ≤ x) (h1 : x ≤ 18446744073709551615) (hb : b.length ≤ 1099511627) (hws : ws.length ≤ 1099511627) (ha0 : 0 ≤ a) (ha1 : a + b.length ≤ 9223372036854775808) (ha8 : a % 8 = 0) (hrr : RowR b ws row) :
    ACalls Try.prog 52 [.v (vp br), .v (.int .u64 x)] (RQ bm br b a A c row) (fun t_ S => ∃ (t' : Thing) (ok : Bool) (row' : List Int) (A' : Option Addr) (c' : Nat) (E E2 : Ent), t_ = .tup [thingT t', .v (.bool ok)] ∧ S = RQ bm br b a A' c' row' ++ [E, E2] ∧ thingR b a row x = if ok = true then some (row', t') else none) := by
  have hrl := hrr.len
  refine ACalls.intro Try.func52 rfl Try.ntmps52 (Nat.le_of_ble_eq_true rfl) rfl fun X w0 => ?_
  refine AW.rseq ?_
  refine AWL.allocOp rfl rfl (B rfl) rfl zc_24 (fun b4 => ?_)
  refine AWL.y rfl rfl (B rfl) (Yv.assign rfl (E rfl rfl)) ?_
  refine AWL.nil ?_
  refine AW.rseq ?_
  refine AWL.y rfl rfl (B rfl) (Yv.move rfl (E rfl rfl)) ?_
  refine AWL.y rfl rfl (B rfl) (Yv.move rfl (E rfl rfl)) ?_
  refine AWL.call rfl rfl (B rfl) rfl ce_60 (E rfl rfl) (evsC (E rfl rfl) (evsC (E rfl rfl) evs0)) (S1 := (RQ bm br b a A c row)) (S2 := _) rfl (refAt60 b a row bm br A c x h0 h1 hb ha0 ha1) ?_
  rintro t24 S24 ⟨rfl, rfl⟩
  refine AWL.y rfl rfl (B rfl) (Yv.move rfl (E rfl rfl)) ?_
  refine AWL.y rfl rfl (B rfl) (Yv.extract rfl (E rfl rfl) rfl) ?_
  refine AWL.y rfl rfl (B rfl) (Yv.extract rfl (E rfl rfl) rfl) ?_
  refine AWL.y rfl rfl (B rfl) (Yv.assign rfl (E rfl rfl)) ?_
  refine AWL.y rfl rfl (B rfl) (Yv.assign rfl (E rfl rfl)) ?_
  refine AWL.nil ?_
  have har := atR_range b a x
  refine AW.seq ?_
  refine AW.rseq ?_
  refine AWL.y rfl rfl (B rfl) (Yv.move rfl (E rfl rfl)) ?_
  refine AWL.y rfl rfl (B rfl) (Yv.not rfl (E rfl rfl)) ?_
  refine AWL.y rfl rfl (B rfl) (Yv.move rfl (E rfl rfl)) ?_
  refine AWL.ygF rfl rfl rfl rfl (B rfl) (Yv.move rfl (E rfl rfl)) ?_
  refine AWL.ygF rfl rfl rfl rfl (B rfl) (Yv.remN rfl (Eg rfl rfl id) (E rfl rfl) (fun hg => by first | omega | (simp only [Bool.and_eq_true, Bool.or_eq_false_iff, Bool.not_eq_true', Bool.not_eq_false', decide_eq_true_eq, decide_eq_false_iff_not] at hg; omega))) ?_
  refine AWL.ygF rfl rfl rfl rfl (B rfl) (Yv.neq rfl (Eg rfl rfl id) (E rfl rfl)) ?_
  refine AWL.y rfl rfl (B rfl) (Yv.pickOr (t := .const (.bool true)) rfl (E rfl rfl) (Eg rfl rfl id)) ?_
  refine AWL.y rfl rfl (B rfl) (Yv.move rfl (E rfl rfl)) ?_
  refine AWL.ygF rfl rfl rfl rfl (B rfl) (Yv.move rfl (E rfl rfl)) ?_
  refine AWL.ygF rfl rfl rfl rfl (B rfl) (Yv.remN rfl (Eg rfl rfl id) (E rfl rfl) (fun hg => by first | omega | (simp only [Bool.and_eq_true, Bool.or_eq_false_iff, Bool.not_eq_true', Bool.not_eq_false', decide_eq_true_eq, decide_eq_false_iff_not] at hg; omega))) ?_
  refine AWL.ygF rfl rfl rfl rfl (B rfl) (Yv.eql rfl (Eg rfl rfl id) (E rfl rfl)) ?_
  refine AWL.y rfl rfl (B rfl) (Yv.pickOr (t := .const (.bool true)) rfl (E rfl rfl) (Eg rfl rfl id)) ?_
  refine AWL.y rfl rfl (B rfl) (Yv.move rfl (E rfl rfl)) ?_
  refine AWL.ygF rfl rfl rfl rfl (B rfl) (Yv.move rfl (E rfl rfl)) ?_
  refine AWL.ygF rfl rfl rfl rfl (B rfl) (Yv.quoN_u64 rfl (Eg rfl rfl id) (E rfl rfl) (fun hg => by first | omega | (simp only [Bool.and_eq_true, Bool.or_eq_false_iff, Bool.not_eq_true', Bool.not_eq_false', decide_eq_true_eq, decide_eq_false_iff_not] at hg; omega))) ?_
  refine AWL.ygF rfl rfl rfl rfl (B rfl) (Yv.remN rfl (Eg rfl rfl id) (E rfl rfl) (fun hg => by first | omega | (simp only [Bool.and_eq_true, Bool.or_eq_false_iff, Bool.not_eq_true', Bool.not_eq_false', decide_eq_true_eq, decide_eq_false_iff_not] at hg; omega))) ?_
  refine AWL.ygF rfl rfl rfl rfl (B rfl) (Yv.neq rfl (Eg rfl rfl id) (E rfl rfl)) ?_
  refine AWL.y rfl rfl (B rfl) (Yv.pickOr (t := .const (.bool true)) rfl (E rfl rfl) (Eg rfl rfl id)) ?_
  refine AWL.nil ?_
  refine AW.cond rfl (fun h0t => ?_) (fun h0f => ?_)
  ·
    try replace h0t := of_decide_eq_true h0t
    have hbA : badA b a x = true := h0t
    refine AW.rseq ?_
    refine AWL.y rfl rfl (B rfl) (Yv.buildS rfl sh_24 evp0 (fun _ => rfl)) ?_
    refine AWL.storeBox (i := 3) rfl rfl rfl ag_24 rfl (E rfl rfl) (E rfl rfl) rfl rfl (Nat.le_of_ble_eq_true rfl) ?_
    refine AWL.y rfl rfl (B rfl) (Yv.assign rfl (E rfl rfl)) ?_
    refine AWL.nil ?_
    refine AW.rowNil 54 2 ?_
    refine AW.freezeCell 4 3 3 rfl (by decide) rfl rfl ?_
    refine AW.rowNil 1 1 ?_
    refine AW.ret (retI (.cellA (i := 3) rfl ag_24 rfl rfl rfl (.tmp rfl .nil)) ?_)
    exact ⟨⟨0, 0, [], []⟩, false, row, A, c, _, _, rfl, rfl, by rw [thingR_badA hbA]; rfl⟩
  ·
    try replace h0f := of_decide_eq_false h0f
    have hbA : badA b a x = false := h0f
    obtain ⟨hout, hx8, hb0⟩ := badA_fine hbA
    obtain ⟨_, hax, ho8, hol⟩ := bad0_fine hb0 ha8
    obtain ⟨o, ho⟩ : ∃ o : Nat, x - a = (o : Int) := ⟨(x - a).toNat, by omega⟩
    rw [ho, Int.toNat_natCast] at ho8 hol
    have hwr := wordAt_range b o
    obtain ⟨n, hn⟩ : ∃ n : Nat, (wordAt b o) / 16777216 = n := ⟨((wordAt b o) / 16777216).toNat, by omega⟩
    have hsr := span_range ((wordAt b o) / 2 % 16) n (by omega)
    have hsw := span_words ((wordAt b o) / 2 % 16) n
    refine AW.retype (k := 6) (t' := .v (.int .u64 (wordAt b o))) rfl (fun w L u h => by rw [← atR_in ho hout]; exact h) ?_
    refine AW.skip ?_
    refine AW.rseq ?_
    refine AWL.y rfl rfl (B rfl) (Yv.move rfl (E rfl rfl)) ?_
    refine AWL.y rfl rfl (B rfl) (Yv.quoN_u64 rfl (E rfl rfl) (E rfl rfl) (fun hg => by omega)) ?_
    refine AWL.y rfl rfl (B rfl) (Yv.remN rfl (E rfl rfl) (E rfl rfl) (fun hg => by omega)) ?_
    refine AWL.y rfl rfl (B rfl) (Yv.convN_i64 rfl Try.underlying29 kd_3 (E rfl rfl) (fun hg => by omega)) ?_
    refine AWL.y rfl rfl (B rfl) (Yv.move rfl (E rfl rfl)) ?_
    refine AWL.y rfl rfl (B rfl) (Yv.quoN_u64 rfl (E rfl rfl) (E rfl rfl) (fun hg => by omega)) ?_
    refine AWL.y rfl rfl (B rfl) (Yv.remN rfl (E rfl rfl) (E rfl rfl) (fun hg => by omega)) ?_
    refine AWL.y rfl rfl (B rfl) (Yv.convN_i64 rfl Try.underlying29 kd_3 (E rfl rfl) (fun hg => by omega)) ?_
    refine AWL.y rfl rfl (B rfl) (Yv.buildS rfl sh_24 (evpC (E rfl rfl) (evpC (E rfl rfl) evp0)) (fun _ => rfl)) ?_
    refine AWL.allocOp rfl rfl (B rfl) rfl zc_24 (fun b8 => ?_)
    refine AWL.storeBox (i := 4) rfl rfl rfl ag_24 rfl (E rfl rfl) (E rfl rfl) rfl rfl (Nat.le_of_ble_eq_true rfl) ?_
    refine AWL.nil ?_
    refine AW.rowNil 54 2 ?_
    refine AW.rseq ?_
    refine AWL.y rfl rfl (B rfl) (Yv.move rfl (E rfl rfl)) ?_
    refine AWL.y rfl rfl (B rfl) (Yv.shrC 16777216 (by decide) (by decide) (by decide) rfl (E rfl rfl) (E rfl rfl)) ?_
    refine AWL.y rfl rfl (B rfl) (Yv.assign rfl (E rfl rfl)) ?_
    refine AWL.nil ?_
    refine AW.retype (k := 9) (t' := .v (.int .u64 (n : Int))) rfl (fun w L u h => by rw [← hn]; exact h) ?_
    refine AW.rseq ?_
    refine AWL.y rfl rfl (B rfl) (Yv.fieldBox rfl fo_24_0 (E rfl rfl)) ?_
    refine AWL.y rfl rfl (B rfl) (Yv.loadBox rfl ag_3 (i := 4) rfl (E rfl rfl) rfl) ?_
    refine AWL.callP rfl rfl (B rfl) rfl ce_34 (E rfl rfl) (evsC (E rfl rfl) evs0) (refRows34 ((wordAt b o) / 2 % 16)) (fun t S h => h) ?_
    refine AWL.y rfl rfl (B rfl) (Yv.assign rfl (E rfl rfl)) ?_
    refine AWL.nil ?_
    refine AW.rseq ?_
    refine AWL.y rfl rfl (B rfl) (Yv.move rfl (E rfl rfl)) ?_
    refine AWL.y rfl rfl (B rfl) (Yv.assign rfl (E rfl rfl)) ?_
    refine AWL.nil ?_
    refine AW.mid (α := Unit) (fun _ => [(0, true, .v (vp br)), (1, true, .v (.int .u64 x)), (4, true, .v (vp b4)), (8, true, .v (vp b8)), (9, true, .v (.int .u64 (n : Int))), (10, true, .v (.bool (bytesK ((wordAt b o) / 2 % 16)))), (11, true, .v (.int .u64 (wordsN ((wordAt b o) / 2 % 16) n)))]) (fun _ => (RQ bm br b a A c row) ++ [.box b4 24 [.v (.int .i64 0), .v (.int .i64 0), .v (.string ⟨#[]⟩), .v (.slice none 0 0)], .box b8 24 [.v (.int .i64 ((wordAt b o) / 2 % 16)), .v (.int .i64 ((wordAt b o) / 256 % 65536)), .v (.string ⟨#[]⟩), .v (.slice none 0 0)], .row none 0 0 54 2 []]) (fun _ => True) ?_ ?_
    ·
      refine AW.rseq ?_
      refine AWL.y rfl rfl (B rfl) (Yv.move rfl (E rfl rfl)) ?_
      refine AWL.nil ?_
      refine AW.cond rfl (fun h1t => ?_) (fun h1f => ?_)
      ·
        try replace h1t := of_decide_eq_true h1t
        refine AW.region ?_
        refine AWL.y rfl rfl (B rfl) (Yv.move rfl (E rfl rfl)) ?_
        refine AWL.y rfl rfl (B rfl) (Yv.addN_u64 rfl (E rfl rfl) (E rfl rfl) (fun hg => by omega)) ?_
        refine AWL.y rfl rfl (B rfl) (Yv.quoN_u64 rfl (E rfl rfl) (E rfl rfl) (fun hg => by omega)) ?_
        refine AWL.y rfl rfl (B rfl) (Yv.assign rfl (E rfl rfl)) ?_
        refine AWL.nil ?_
        exact ⟨(), trivial, (Sub.cons rfl rfl (Sub.cons rfl rfl (Sub.cons rfl rfl (Sub.cons rfl rfl (Sub.cons rfl rfl (Sub.cons rfl rfl (Sub.cons rfl (by rw [wordsN, if_pos h1t]) Sub.nil))))))), rfl⟩
      ·
        try replace h1f := of_decide_eq_false h1f
        refine AW.skip ?_
        exact ⟨(), trivial, (Sub.cons rfl rfl (Sub.cons rfl rfl (Sub.cons rfl rfl (Sub.cons rfl rfl (Sub.cons rfl rfl (Sub.cons rfl rfl (Sub.cons rfl (by rw [wordsN, show bytesK ((wordAt b o) / 2 % 16) = false from h1f]; rfl) Sub.nil))))))), rfl⟩
    ·
      rintro _ hmid
      refine AW.rseq ?_
      refine AWL.y rfl rfl (B rfl) (Yv.move rfl (E rfl rfl)) ?_
      refine AWL.y rfl rfl (B rfl) (Yv.move rfl (E rfl rfl)) ?_
      refine AWL.y rfl rfl (B rfl) (Yv.nilChk rfl (E rfl rfl)) ?_
      refine AWL.y rfl rfl (B rfl) (Yv.fieldBox rfl fo_77_1 (E rfl rfl)) ?_
      refine AWL.y rfl rfl (B rfl) (Yv.loadBox rfl ag_29 (i := 1) rfl (E rfl rfl) rfl) ?_
      refine AWL.y rfl rfl (B rfl) (Yv.subN_u64 rfl (E rfl rfl) (E rfl rfl) (fun hg => by omega)) ?_
      refine AWL.y rfl rfl (B rfl) (Yv.assign rfl (E rfl rfl)) ?_
      refine AWL.nil ?_
      refine AW.retype (k := 12) (t' := .v (.int .u64 (o : Int))) rfl (fun w L u h => by rw [← ho]; exact h) ?_
      refine AW.seq ?_
      refine AW.rseq ?_
      refine AWL.y rfl rfl (B rfl) (Yv.fieldBox rfl fo_24_0 (E rfl rfl)) ?_
      refine AWL.y rfl rfl (B rfl) (Yv.loadBox rfl ag_3 (i := 4) rfl (E rfl rfl) rfl) ?_
      refine AWL.y rfl rfl (B rfl) (Yv.lss rfl (E rfl rfl) (E rfl rfl)) ?_
      refine AWL.y rfl rfl (B rfl) (Yv.move rfl (E rfl rfl)) ?_
      refine AWL.ygF rfl rfl rfl rfl (B rfl) (Yv.fieldBox rfl fo_24_0 (E rfl rfl)) ?_
      refine AWL.ygF rfl rfl rfl rfl (B rfl) (Yv.loadBox rfl ag_3 (i := 4) rfl (Eg rfl rfl id) rfl) ?_
      refine AWL.ygF rfl rfl rfl rfl (B rfl) (Yv.gtr rfl (Eg rfl rfl id) (E rfl rfl)) ?_
      refine AWL.y rfl rfl (B rfl) (Yv.pickOr (t := .const (.bool true)) rfl (E rfl rfl) (Eg rfl rfl id)) ?_
      refine AWL.y rfl rfl (B rfl) (Yv.move rfl (E rfl rfl)) ?_
      refine AWL.ygF rfl rfl rfl rfl (B rfl) (Yv.move rfl (E rfl rfl)) ?_
      refine AWL.ygF rfl rfl rfl rfl (B rfl) (Yv.move rfl (E rfl rfl)) ?_
      refine AWL.ygF rfl rfl rfl rfl (B rfl) (Yv.nilChk rfl (Eg rfl rfl id)) ?_
      refine AWL.ygF rfl rfl rfl rfl (B rfl) (Yv.fieldBox rfl fo_77_0 (Eg rfl rfl id)) ?_
      refine AWL.ygF rfl rfl rfl rfl (B rfl) (Yv.loadBox rfl ag_40 (i := 1) rfl (Eg rfl rfl id) rfl) ?_
      refine AWL.ygF rfl rfl rfl rfl (B rfl) (Yv.lenSl rfl so_40 (B rfl) (Eg rfl rfl id) len_u8s) ?_
      refine AWL.ygF rfl rfl rfl rfl (B rfl) (Yv.convN_u64 rfl Try.underlying3 kd_29 (Eg rfl rfl id) (fun hg => by first | omega | (simp only [Bool.and_eq_true, Bool.or_eq_false_iff, Bool.not_eq_true', Bool.not_eq_false', decide_eq_true_eq, decide_eq_false_iff_not] at hg; omega))) ?_
      refine AWL.ygF rfl rfl rfl rfl (B rfl) (Yv.move rfl (E rfl rfl)) ?_
      refine AWL.ygF rfl rfl rfl rfl (B rfl) (Yv.subN_u64 rfl (Eg rfl rfl id) (Eg rfl rfl id) (fun hg => by first | omega | (simp only [Bool.and_eq_true, Bool.or_eq_false_iff, Bool.not_eq_true', Bool.not_eq_false', decide_eq_true_eq, decide_eq_false_iff_not] at hg; omega))) ?_
      refine AWL.ygF rfl rfl rfl rfl (B rfl) (Yv.subN_u64 rfl (Eg rfl rfl id) (E rfl rfl) (fun hg => by first | omega | (simp only [Bool.and_eq_true, Bool.or_eq_false_iff, Bool.not_eq_true', Bool.not_eq_false', decide_eq_true_eq, decide_eq_false_iff_not] at hg; omega))) ?_
      refine AWL.ygF rfl rfl rfl rfl (B rfl) (Yv.quoN_u64 rfl (Eg rfl rfl id) (E rfl rfl) (fun hg => by first | omega | (simp only [Bool.and_eq_true, Bool.or_eq_false_iff, Bool.not_eq_true', Bool.not_eq_false', decide_eq_true_eq, decide_eq_false_iff_not] at hg; omega))) ?_
      refine AWL.ygF rfl rfl rfl rfl (B rfl) (Yv.gtr rfl (Eg rfl rfl id) (Eg rfl rfl id)) ?_
      refine AWL.y rfl rfl (B rfl) (Yv.pickOr (t := .const (.bool true)) rfl (E rfl rfl) (Eg rfl rfl id)) ?_
      refine AWL.nil ?_
      refine AW.cond rfl (fun h2t => ?_) (fun h2f => ?_)
      ·
        try replace h2t := of_decide_eq_true h2t
        have hb1 : bad1 (wordAt b o) (b.length - o) = true := by rw [bad1_badB ho hbA]; unfold badB; rw [hn]; exact h2t
        refine AW.freezeCell 5 4 3 rfl (by decide) rfl rfl ?_
        refine AW.rseq ?_
        refine AWL.y rfl rfl (B rfl) (Yv.loadBoxA rfl ag_24 (i := 4) rfl (E rfl rfl) rfl rfl) ?_
        refine AWL.storeBox (i := 3) rfl rfl rfl ag_24 rfl (E rfl rfl) (E rfl rfl) rfl rfl (Nat.le_of_ble_eq_true rfl) ?_
        refine AWL.y rfl rfl (B rfl) (Yv.assign rfl (E rfl rfl)) ?_
        refine AWL.nil ?_
        refine AW.ret (retI (.cellA (i := 3) rfl ag_24 rfl rfl rfl (.tmp rfl .nil)) ?_)
        exact ⟨⟨((wordAt b o) / 2 % 16), ((wordAt b o) / 256 % 65536), [], []⟩, false, row, A, c, _, _, rfl, rfl, by rw [thingR_bad1 ho hb0 hb1]; rfl⟩
      ·
        try replace h2f := of_decide_eq_false h2f
        have hb1 : bad1 (wordAt b o) (b.length - o) = false := by rw [bad1_badB ho hbA]; unfold badB; rw [hn]; exact h2f
        simp only [Bool.or_eq_true, Bool.and_eq_true, Bool.or_eq_false_iff, Bool.and_eq_false_iff, Bool.not_eq_true', Bool.not_eq_false', decide_eq_true_eq, decide_eq_false_iff_not, Decidable.not_not] at h2f
        have hspan : o + (spanF ((wordAt b o) / 2 % 16) n).toNat ≤ b.length := by omega
        refine AW.skip ?_
        refine AW.mid (α := (List Int × Thing) × (Option Addr × Nat)) (fun q => [(4, true, .v (vp b4)), (8, true, .v (vp b8))]) (fun q => RQ bm br b a q.2.1 q.2.2 q.1.1 ++ [.box b4 24 [.v (.int .i64 0), .v (.int .i64 0), .v (.string ⟨#[]⟩), .v (.slice none 0 0)], .box b8 24 (thingCells q.1.2)]) (fun q => body b o (wordAt b o) row = some q.1) ?_ ?_
        ·
          refine AW.rseq ?_
          refine AWL.y rfl rfl (B rfl) (Yv.move rfl (E rfl rfl)) ?_
          refine AWL.nil ?_
          refine AW.cond rfl (fun h3t => ?_) (fun h3f => ?_)
          ·
            try replace h3t := of_decide_eq_true h3t
            have hk3 : bytesK ((wordAt b o) / 2 % 16) = true := h3t
            have hsp := span_bytes (n : Int) hk3
            have hwn : (wordsN ((wordAt b o) / 2 % 16) n) = (n + 7) / 8 := by rw [wordsN, if_pos hk3]
            have hzl := zs_len hspan
            refine AW.rseq ?_
            refine AWL.y rfl rfl (B rfl) (Yv.move rfl (E rfl rfl)) ?_
            refine AWL.y rfl rfl (B rfl) (Yv.nilChk rfl (E rfl rfl)) ?_
            refine AWL.y rfl rfl (B rfl) (Yv.fieldBox rfl fo_77_0 (E rfl rfl)) ?_
            refine AWL.y rfl rfl (B rfl) (Yv.loadBox rfl ag_40 (i := 1) rfl (E rfl rfl) rfl) ?_
            refine AWL.y rfl rfl (B rfl) (Yv.move rfl (E rfl rfl)) ?_
            refine AWL.y rfl rfl (B rfl) (Yv.addN_u64 rfl (E rfl rfl) (E rfl rfl) (fun hg => by omega)) ?_
            refine AWL.y rfl rfl (B rfl) (Yv.move rfl (E rfl rfl)) ?_
            refine AWL.y rfl rfl (B rfl) (Yv.addN_u64 rfl (E rfl rfl) (E rfl rfl) (fun hg => by omega)) ?_
            refine AWL.y rfl rfl (B rfl) (Yv.move rfl (E rfl rfl)) ?_
            refine AWL.y rfl rfl (B rfl) (Yv.addN_u64 rfl (E rfl rfl) (E rfl rfl) (fun hg => by omega)) ?_
            refine AWL.y rfl rfl (B rfl) (Yv.sliceMap rfl ss_40 (E rfl rfl) (Bound.some_ (j := o + 8) (E rfl rfl) (fun hg => by omega)) (Bound.some_ (j := o + 8 + n) (E rfl rfl) (fun hg => by omega)) (fun hg => ⟨by omega, by omega⟩)) ?_
            refine AWL.y rfl rfl (B rfl) (Yv.bytesStr rfl by_40 st_9 (E rfl rfl)) ?_
            refine AWL.y rfl rfl (B rfl) (Yv.fieldBox rfl fo_24_2 (E rfl rfl)) ?_
            refine AWL.storeBox (i := 4) rfl rfl rfl ag_9 rfl (E rfl rfl) (E rfl rfl) rfl rfl (Nat.le_of_ble_eq_true rfl) ?_
            refine AWL.nil ?_
            refine AW.rseq ?_
            refine AWL.y rfl rfl (B rfl) (Yv.move rfl (E rfl rfl)) ?_
            refine AWL.y rfl rfl (B rfl) (Yv.addN_u64 rfl (E rfl rfl) (E rfl rfl) (fun hg => by omega)) ?_
            refine AWL.y rfl rfl (B rfl) (Yv.move rfl (E rfl rfl)) ?_
            refine AWL.y rfl rfl (B rfl) (Yv.addN_u64 rfl (E rfl rfl) (E rfl rfl) (fun hg => by omega)) ?_
            refine AWL.y rfl rfl (B rfl) (Yv.assign rfl (E rfl rfl)) ?_
            refine AWL.nil ?_
            refine AW.block ?_
            refine AW.loop (fun (i : Nat) => [(0, true, .v (vp br)), (4, true, .v (vp b4)), (8, true, .v (vp b8)), (11, true, .v (.int .u64 (wordsN ((wordAt b o) / 2 % 16) n))), (12, true, .v (.int .u64 (o : Int))), (13, true, .v (.int .u64 ((o + 8 + n + i : Nat) : Int)))]) (fun (i : Nat) => ((RQ bm br b a A c row) ++ [.box b4 24 [.v (.int .i64 0), .v (.int .i64 0), .v (.string ⟨#[]⟩), .v (.slice none 0 0)], .box b8 24 [.v (.int .i64 ((wordAt b o) / 2 % 16)), .v (.int .i64 ((wordAt b o) / 256 % 65536)), sv ((b.drop (o + 8)).take (o + 8 + n - (o + 8))), .v (.slice none 0 0)], .row none 0 0 54 2 []])) (fun (i : Nat) => i ≤ (zsOf b o n ((wordAt b o) / 2 % 16)).length ∧ ∀ m, m < i → (((zsOf b o n ((wordAt b o) / 2 % 16)).getD m 0).toNat : Int) = 0) (fun (i : Nat) => (zsOf b o n ((wordAt b o) / 2 % 16)).length - i) 0 ?_ ?_ ?_ ?_
            · exact ⟨Nat.zero_le _, fun m hm => by omega⟩
            · exact (Sub.cons rfl rfl (Sub.cons rfl rfl (Sub.cons rfl rfl (Sub.cons rfl rfl (Sub.cons rfl rfl (Sub.cons rfl rfl Sub.nil))))))
            · rfl
            ·
              intro i hinv
              refine AW.seq ?_
              refine AW.rseq ?_
              refine AWL.y rfl rfl (B rfl) (Yv.move rfl (E rfl rfl)) ?_
              refine AWL.y rfl rfl (B rfl) (Yv.move rfl (E rfl rfl)) ?_
              refine AWL.y rfl rfl (B rfl) (Yv.addN_u64 rfl (E rfl rfl) (E rfl rfl) (fun hg => by omega)) ?_
              refine AWL.y rfl rfl (B rfl) (Yv.move rfl (E rfl rfl)) ?_
              refine AWL.y rfl rfl (B rfl) (Yv.mulN_u64 rfl (E rfl rfl) (E rfl rfl) (fun hg => by omega)) ?_
              refine AWL.y rfl rfl (B rfl) (Yv.addN_u64 rfl (E rfl rfl) (E rfl rfl) (fun hg => by omega)) ?_
              refine AWL.y rfl rfl (B rfl) (Yv.lss rfl (E rfl rfl) (E rfl rfl)) ?_
              refine AWL.nil ?_
              refine AW.cond rfl (fun h4t => ?_) (fun h4f => ?_)
              ·
                try replace h4t := of_decide_eq_true h4t
                refine AW.skip ?_
                refine AW.seq ?_
                refine AW.block ?_
                refine AW.rseq ?_
                refine AWL.y rfl rfl (B rfl) (Yv.move rfl (E rfl rfl)) ?_
                refine AWL.y rfl rfl (B rfl) (Yv.nilChk rfl (E rfl rfl)) ?_
                refine AWL.y rfl rfl (B rfl) (Yv.fieldBox rfl fo_77_0 (E rfl rfl)) ?_
                refine AWL.y rfl rfl (B rfl) (Yv.loadBox rfl ag_40 (i := 1) rfl (E rfl rfl) rfl) ?_
                refine AWL.y rfl rfl (B rfl) (Yv.move rfl (E rfl rfl)) ?_
                refine AWL.y rfl rfl (B rfl) (Yv.indexSl (j := (o + 8 + n + i)) rfl ss_40 (B rfl) (E rfl rfl) (E rfl rfl) (fun hg => ⟨rfl, by simp only [len_u8s]; omega⟩)) ?_
                refine AWL.y rfl rfl (B rfl) (Yv.loadRp rfl ag_5 (E rfl rfl) (fun hg => u8_get (by omega))) ?_
                refine AWL.y rfl rfl (B rfl) (Yv.neq rfl (E rfl rfl) (E rfl rfl)) ?_
                refine AWL.nil ?_
                refine AW.cond rfl (fun h5t => ?_) (fun h5f => ?_)
                ·
                  try replace h5t := of_decide_eq_true h5t
                  simp only [Bool.or_eq_true, Bool.and_eq_true, Bool.or_eq_false_iff, Bool.and_eq_false_iff, Bool.not_eq_true', Bool.not_eq_false', decide_eq_true_eq, decide_eq_false_iff_not, Decidable.not_not] at h5t
                  have hz := zs_bad (zs := (zsOf b o n ((wordAt b o) / 2 % 16))) (i := i) (by omega) (by rw [zs_get (by omega)]; exact h5t)
                  refine AW.freezeCell 5 4 3 rfl (by decide) rfl rfl ?_
                  refine AW.rseq ?_
                  refine AWL.y rfl rfl (B rfl) (Yv.loadBoxA rfl ag_24 (i := 4) rfl (E rfl rfl) rfl rfl) ?_
                  refine AWL.storeBox (i := 3) rfl rfl rfl ag_24 rfl (E rfl rfl) (E rfl rfl) rfl rfl (Nat.le_of_ble_eq_true rfl) ?_
                  refine AWL.y rfl rfl (B rfl) (Yv.assign rfl (E rfl rfl)) ?_
                  refine AWL.nil ?_
                  refine AW.ret (retI (.cellA (i := 3) rfl ag_24 rfl rfl rfl (.tmp rfl .nil)) ?_)
                  exact ⟨⟨((wordAt b o) / 2 % 16), ((wordAt b o) / 256 % 65536), (b.drop (o + 8)).take (o + 8 + n - (o + 8)), []⟩, false, row, A, c, _, _, rfl, rfl, by rw [thingR_none ho hb0 hb1 (body_zs hn hk3 hz)]; rfl⟩
                ·
                  try replace h5f := of_decide_eq_false h5f
                  simp only [Bool.or_eq_true, Bool.and_eq_true, Bool.or_eq_false_iff, Bool.and_eq_false_iff, Bool.not_eq_true', Bool.not_eq_false', decide_eq_true_eq, decide_eq_false_iff_not, Decidable.not_not] at h5f
                  refine AW.skip ?_
                  refine AW.region ?_
                  refine AWL.y rfl rfl (B rfl) (Yv.move rfl (E rfl rfl)) ?_
                  refine AWL.y rfl rfl (B rfl) (Yv.addN_u64 rfl (E rfl rfl) (E rfl rfl) (fun hg => by omega)) ?_
                  refine AWL.y rfl rfl (B rfl) (Yv.assign rfl (E rfl rfl)) ?_
                  refine AWL.nil ?_
                  refine ⟨i + 1, ⟨by omega, fun m hm => ?_⟩, by omega, Sub.cons rfl rfl (Sub.cons rfl rfl (Sub.cons rfl rfl (Sub.cons rfl rfl (Sub.cons rfl rfl (Sub.cons rfl (by congr 2) Sub.nil))))), rfl⟩
                  rcases Nat.lt_or_ge m i with q | q
                  · exact hinv.2 m q
                  · rw [show m = i by omega, zs_get (by omega)]; exact h5f
              ·
                try replace h4f := of_decide_eq_false h4f
                have hz := zs_good (zs := (zsOf b o n ((wordAt b o) / 2 % 16))) (i := i) (by omega) hinv.2
                refine AW.freezeCell 5 4 3 rfl (by decide) rfl rfl ?_
                refine AW.exit ?_
                exact ⟨((row, ⟨((wordAt b o) / 2 % 16), ((wordAt b o) / 256 % 65536), (b.drop (o + 8)).take (o + 8 + n - (o + 8)), []⟩), (A, c)), (by rw [show o + 8 + n - (o + 8) = n by omega]; exact body_bytes hn hk3 hz), Sub.cons rfl rfl (Sub.cons rfl rfl Sub.nil), rfl⟩
          ·
            try replace h3f := of_decide_eq_false h3f
            have hk3 : bytesK ((wordAt b o) / 2 % 16) = false := h3f
            have hsp := span_other (n : Int) hk3
            refine AW.rseq ?_
            refine AWL.y rfl rfl (B rfl) (Yv.assign rfl (E rfl rfl)) ?_
            refine AWL.nil ?_
            refine AW.mid (α := Nat × Int) (fun q => [(0, true, .v (vp br)), (1, true, .v (.int .u64 x)), (4, true, .v (vp b4)), (8, true, .v (vp b8)), (9, true, .v (.int .u64 (n : Int))), (14, true, .v (.int .u64 (q.1 : Int)))]) (fun q => (RQ bm br b a A c row) ++ [.box b4 24 [.v (.int .i64 0), .v (.int .i64 0), .v (.string ⟨#[]⟩), .v (.slice none 0 0)], .box b8 24 [.v (.int .i64 ((wordAt b o) / 2 % 16)), .v (.int .i64 q.2), .v (.string ⟨#[]⟩), .v (.slice none 0 0)], .row none 0 0 54 2 []]) (fun q => body b o (wordAt b o) row = some ((valsF row (wordsAt b (o + 8 + 8 * q.1) (n - q.1))).1, ⟨((wordAt b o) / 2 % 16), q.2, [], (valsF row (wordsAt b (o + 8 + 8 * q.1) (n - q.1))).2⟩) ∧ q.1 ≤ n ∧ q.1 ≤ 1) ?_ ?_
            ·
              refine AW.rseq ?_
              refine AWL.y rfl rfl (B rfl) (Yv.fieldBox rfl fo_24_0 (E rfl rfl)) ?_
              refine AWL.y rfl rfl (B rfl) (Yv.loadBox rfl ag_3 (i := 4) rfl (E rfl rfl) rfl) ?_
              refine AWL.y rfl rfl (B rfl) (Yv.eql rfl (E rfl rfl) (E rfl rfl)) ?_
              refine AWL.nil ?_
              refine AW.cond rfl (fun h6t => ?_) (fun h6f => ?_)
              ·
                try replace h6t := of_decide_eq_true h6t
                refine AW.rseq ?_
                refine AWL.y rfl rfl (B rfl) (Yv.move rfl (E rfl rfl)) ?_
                refine AWL.y rfl rfl (B rfl) (Yv.move rfl (E rfl rfl)) ?_
                refine AWL.y rfl rfl (B rfl) (Yv.addN_u64 rfl (E rfl rfl) (E rfl rfl) (fun hg => by omega)) ?_
                refine AWL.call rfl rfl (B rfl) rfl ce_60 (E rfl rfl) (evsC (E rfl rfl) (evsC (E rfl rfl) evs0)) (S1 := (RQ bm br b a A c row)) (S2 := _) rfl (refAt60 b a row bm br A c (x + 8) (by omega) (by omega) hb ha0 ha1) ?_
                rintro t137 S137 ⟨rfl, rfl⟩
                refine AWL.y rfl rfl (B rfl) (Yv.move rfl (E rfl rfl)) ?_
                refine AWL.y rfl rfl (B rfl) (Yv.extract rfl (E rfl rfl) rfl) ?_
                refine AWL.y rfl rfl (B rfl) (Yv.extract rfl (E rfl rfl) rfl) ?_
                refine AWL.y rfl rfl (B rfl) (Yv.assign rfl (E rfl rfl)) ?_
                refine AWL.y rfl rfl (B rfl) (Yv.assign rfl (E rfl rfl)) ?_
                refine AWL.nil ?_
                have hc60 := atR_range b a (x + 8)
                have hcw : (n : Int) = 0 ∨ atR b a (x + 8) = wordAt b (o + 8) := by
                  rcases Nat.eq_zero_or_pos n with q | q
                  · left; omega
                  · right; exact atR_in (o := o + 8) (by omega) (by simp only [outR, Bool.or_eq_false_iff, decide_eq_false_iff_not]; omega)
                refine AW.seq ?_
                refine AW.rseq ?_
                refine AWL.y rfl rfl (B rfl) (Yv.move rfl (E rfl rfl)) ?_
                refine AWL.y rfl rfl (B rfl) (Yv.eql rfl (E rfl rfl) (E rfl rfl)) ?_
                refine AWL.y rfl rfl (B rfl) (Yv.move rfl (E rfl rfl)) ?_
                refine AWL.ygF rfl rfl rfl rfl (B rfl) (Yv.fieldBox rfl fo_24_1 (E rfl rfl)) ?_
                refine AWL.ygF rfl rfl rfl rfl (B rfl) (Yv.loadBox rfl ag_3 (i := 4) rfl (Eg rfl rfl id) rfl) ?_
                refine AWL.ygF rfl rfl rfl rfl (B rfl) (Yv.neq rfl (Eg rfl rfl id) (E rfl rfl)) ?_
                refine AWL.y rfl rfl (B rfl) (Yv.pickOr (t := .const (.bool true)) rfl (E rfl rfl) (Eg rfl rfl id)) ?_
                refine AWL.y rfl rfl (B rfl) (Yv.move rfl (E rfl rfl)) ?_
                refine AWL.ygF rfl rfl rfl rfl (B rfl) (Yv.move rfl (E rfl rfl)) ?_
                refine AWL.ygF rfl rfl rfl rfl (B rfl) (Yv.lss rfl (Eg rfl rfl id) (E rfl rfl)) ?_
                refine AWL.y rfl rfl (B rfl) (Yv.pickOr (t := .const (.bool true)) rfl (E rfl rfl) (Eg rfl rfl id)) ?_
                refine AWL.y rfl rfl (B rfl) (Yv.move rfl (E rfl rfl)) ?_
                refine AWL.ygF rfl rfl rfl rfl (B rfl) (Yv.move rfl (E rfl rfl)) ?_
                refine AWL.ygF rfl rfl rfl rfl (B rfl) (Yv.subN_u64 rfl (Eg rfl rfl id) (E rfl rfl) (fun hg => by first | omega | (simp only [Bool.and_eq_true, Bool.or_eq_false_iff, Bool.not_eq_true', Bool.not_eq_false', decide_eq_true_eq, decide_eq_false_iff_not] at hg; omega))) ?_
                refine AWL.ygF rfl rfl rfl rfl (B rfl) (Yv.remN rfl (Eg rfl rfl id) (E rfl rfl) (fun hg => by first | omega | (simp only [Bool.and_eq_true, Bool.or_eq_false_iff, Bool.not_eq_true', Bool.not_eq_false', decide_eq_true_eq, decide_eq_false_iff_not] at hg; omega))) ?_
                refine AWL.ygF rfl rfl rfl rfl (B rfl) (Yv.neq rfl (Eg rfl rfl id) (E rfl rfl)) ?_
                refine AWL.y rfl rfl (B rfl) (Yv.pickOr (t := .const (.bool true)) rfl (E rfl rfl) (Eg rfl rfl id)) ?_
                refine AWL.y rfl rfl (B rfl) (Yv.move rfl (E rfl rfl)) ?_
                refine AWL.ygF rfl rfl rfl rfl (B rfl) (Yv.move rfl (E rfl rfl)) ?_
                refine AWL.ygF rfl rfl rfl rfl (B rfl) (Yv.subN_u64 rfl (Eg rfl rfl id) (E rfl rfl) (fun hg => by first | omega | (simp only [Bool.and_eq_true, Bool.or_eq_false_iff, Bool.not_eq_true', Bool.not_eq_false', decide_eq_true_eq, decide_eq_false_iff_not] at hg; omega))) ?_
                refine AWL.ygF rfl rfl rfl rfl (B rfl) (Yv.quoN_u64 rfl (Eg rfl rfl id) (E rfl rfl) (fun hg => by first | omega | (simp only [Bool.and_eq_true, Bool.or_eq_false_iff, Bool.not_eq_true', Bool.not_eq_false', decide_eq_true_eq, decide_eq_false_iff_not] at hg; omega))) ?_
                refine AWL.ygF rfl rfl rfl rfl (B rfl) (Yv.geq rfl (Eg rfl rfl id) (E rfl rfl)) ?_
                refine AWL.y rfl rfl (B rfl) (Yv.pickOr (t := .const (.bool true)) rfl (E rfl rfl) (Eg rfl rfl id)) ?_
                refine AWL.nil ?_
                refine AW.cond rfl (fun h7t => ?_) (fun h7f => ?_)
                ·
                  try replace h7t := of_decide_eq_true h7t
                  have hz : badC n ((wordAt b o) / 256 % 65536) (atR b a (x + 8)) = true := by unfold badC; exact h7t
                  refine AW.freezeCell 5 4 3 rfl (by decide) rfl rfl ?_
                  refine AW.rseq ?_
                  refine AWL.y rfl rfl (B rfl) (Yv.loadBoxA rfl ag_24 (i := 4) rfl (E rfl rfl) rfl rfl) ?_
                  refine AWL.storeBox (i := 3) rfl rfl rfl ag_24 rfl (E rfl rfl) (E rfl rfl) rfl rfl (Nat.le_of_ble_eq_true rfl) ?_
                  refine AWL.y rfl rfl (B rfl) (Yv.assign rfl (E rfl rfl)) ?_
                  refine AWL.nil ?_
                  refine AW.ret (retI (.cellA (i := 3) rfl ag_24 rfl rfl rfl (.tmp rfl .nil)) ?_)
                  exact ⟨⟨((wordAt b o) / 2 % 16), ((wordAt b o) / 256 % 65536), [], []⟩, false, row, A, c, _, _, rfl, rfl, by rw [thingR_none ho hb0 hb1 (body_badC hn hk3 h6t hcw hz)]; rfl⟩
                ·
                  try replace h7f := of_decide_eq_false h7f
                  have hz := badC_fine (n := n) (g := ((wordAt b o) / 256 % 65536)) (c := atR b a (x + 8)) h7f
                  refine AW.skip ?_
                  have hcq := hcw.resolve_left hz.1.1
                  have hcf := code_fine hc60.1 hc60.2 hz.2.1
                  have hbd16 : body b o (wordAt b o) row = some ((valsF row (wordsAt b (o + 8 + 8 * 1) (n - 1))).1, ⟨((wordAt b o) / 2 % 16), (atR b a (x + 8) - 4194304) / 16, [], (valsF row (wordsAt b (o + 8 + 8 * 1) (n - 1))).2⟩) := by
                    rw [hcq] at hcf hz ⊢
                    have := body_clo (b := b) (o := o) (row := row) hn hk3 h6t hz.1 (by rw [hcf]; exact hz.2.2)
                    rw [hcf] at this
                    exact this
                  refine AW.rseq ?_
                  refine AWL.y rfl rfl (B rfl) (Yv.move rfl (E rfl rfl)) ?_
                  refine AWL.y rfl rfl (B rfl) (Yv.subN_u64 rfl (E rfl rfl) (E rfl rfl) (fun hg => by omega)) ?_
                  refine AWL.y rfl rfl (B rfl) (Yv.quoN_u64 rfl (E rfl rfl) (E rfl rfl) (fun hg => by omega)) ?_
                  refine AWL.y rfl rfl (B rfl) (Yv.convN_i64 rfl Try.underlying29 kd_3 (E rfl rfl) (fun hg => by omega)) ?_
                  refine AWL.y rfl rfl (B rfl) (Yv.fieldBox rfl fo_24_1 (E rfl rfl)) ?_
                  refine AWL.storeBox (i := 4) rfl rfl rfl ag_3 rfl (E rfl rfl) (E rfl rfl) rfl rfl (Nat.le_of_ble_eq_true rfl) ?_
                  refine AWL.nil ?_
                  refine AW.region ?_
                  refine AWL.y rfl rfl (B rfl) (Yv.assign rfl (E rfl rfl)) ?_
                  refine AWL.nil ?_
                  exact ⟨(1, (atR b a (x + 8) - 4194304) / 16), ⟨hbd16, by omega, by omega⟩, (Sub.cons rfl rfl (Sub.cons rfl rfl (Sub.cons rfl rfl (Sub.cons rfl rfl (Sub.cons rfl rfl (Sub.cons rfl rfl Sub.nil)))))), rfl⟩
              ·
                try replace h6f := of_decide_eq_false h6f
                refine AW.skip ?_
                exact ⟨(0, ((wordAt b o) / 256 % 65536)), ⟨body_other hn hk3 h6f, by omega, by omega⟩, (Sub.cons rfl rfl (Sub.cons rfl rfl (Sub.cons rfl rfl (Sub.cons rfl rfl (Sub.cons rfl rfl (Sub.cons rfl rfl Sub.nil)))))), rfl⟩
            ·
              rintro ⟨fr, g2⟩ ⟨hg2, hfn, hf1⟩
              refine AW.rseq ?_
              refine AWL.y rfl rfl (B rfl) (Yv.move rfl (E rfl rfl)) ?_
              refine AWL.y rfl rfl (B rfl) (Yv.assign rfl (E rfl rfl)) ?_
              refine AWL.nil ?_
              refine AW.block ?_
              refine AW.loop5 (fun (j : Nat) (A1 : Option Addr) (c1 : Nat) (Ao : Option Addr) (co : Nat) => [(0, true, .v (vp br)), (1, true, .v (.int .u64 x)), (4, true, .v (vp b4)), (8, true, .v (vp b8)), (9, true, .v (.int .u64 (n : Int))), (17, true, .v (.int .u64 ((fr + j : Nat) : Int)))]) (fun (j : Nat) (A1 : Option Addr) (c1 : Nat) (Ao : Option Addr) (co : Nat) => ((RQ bm br b a A1 c1 (valsF row ((wordsAt b (o + 8 + 8 * fr) (n - fr)).take j)).1) ++ [.box b4 24 [.v (.int .i64 0), .v (.int .i64 0), .v (.string ⟨#[]⟩), .v (.slice none 0 0)], .box b8 24 [.v (.int .i64 ((wordAt b o) / 2 % 16)), .v (.int .i64 g2), .v (.string ⟨#[]⟩), .v (.slice Ao j co)], .row Ao j co 54 2 ((valsF row ((wordsAt b (o + 8 + 8 * fr) (n - fr)).take j)).2.flatMap refCells)])) (fun (j : Nat) (A1 : Option Addr) (c1 : Nat) (Ao : Option Addr) (co : Nat) => j ≤ n - fr) (fun (j : Nat) (A1 : Option Addr) (c1 : Nat) (Ao : Option Addr) (co : Nat) => n - fr - j) 0 A c none 0 ?_ ?_ ?_ ?_
              · exact Nat.zero_le _
              · exact (Sub.cons rfl rfl (Sub.cons rfl rfl (Sub.cons rfl rfl (Sub.cons rfl rfl (Sub.cons rfl rfl (Sub.cons rfl rfl Sub.nil))))))
              · rfl
              ·
                intro j A1 c1 Ao co hinv
                have hok := valsF_ok hrr (l := (wordsAt b (o + 8 + 8 * fr) (n - fr)).take j) (fun x hx => src_words (b := b) (ws := ws) (by omega) (by omega) x (List.mem_of_mem_take hx))
                have hlen := hok.len
                have hwl := wordsAt_len b (o + 8 + 8 * fr) (n - fr)
                refine AW.seq ?_
                refine AW.rseq ?_
                refine AWL.y rfl rfl (B rfl) (Yv.move rfl (E rfl rfl)) ?_
                refine AWL.y rfl rfl (B rfl) (Yv.move rfl (E rfl rfl)) ?_
                refine AWL.y rfl rfl (B rfl) (Yv.lss rfl (E rfl rfl) (E rfl rfl)) ?_
                refine AWL.nil ?_
                refine AW.cond rfl (fun h8t => ?_) (fun h8f => ?_)
                ·
                  try replace h8t := of_decide_eq_true h8t
                  have hxo : (x + 8 + 8 * ((fr + j : Nat) : Int)) - a = ((o + 8 * (fr + j) + 8 : Nat) : Int) := by omega
                  have hxout : outR b a (x + 8 + 8 * ((fr + j : Nat) : Int)) = false := by simp only [outR, Bool.or_eq_false_iff, decide_eq_false_iff_not]; omega
                  have hwj := words_at b (o + 8 + 8 * fr) (n - fr) j (by omega)
                  rw [show o + 8 + 8 * fr + 8 * j = o + 8 * (fr + j) + 8 by omega] at hwj
                  refine AW.skip ?_
                  refine AW.seq ?_
                  refine AW.block ?_
                  refine AW.rseq ?_
                  refine AWL.y rfl rfl (B rfl) (Yv.move rfl (E rfl rfl)) ?_
                  refine AWL.y rfl rfl (B rfl) (Yv.move rfl (E rfl rfl)) ?_
                  refine AWL.y rfl rfl (B rfl) (Yv.addN_u64 rfl (E rfl rfl) (E rfl rfl) (fun hg => by omega)) ?_
                  refine AWL.y rfl rfl (B rfl) (Yv.move rfl (E rfl rfl)) ?_
                  refine AWL.y rfl rfl (B rfl) (Yv.mulN_u64 rfl (E rfl rfl) (E rfl rfl) (fun hg => by omega)) ?_
                  refine AWL.y rfl rfl (B rfl) (Yv.addN_u64 rfl (E rfl rfl) (E rfl rfl) (fun hg => by omega)) ?_
                  refine AWL.call rfl rfl (B rfl) rfl ce_60 (E rfl rfl) (evsC (E rfl rfl) (evsC (E rfl rfl) evs0)) (S1 := (RQ bm br b a A1 c1 (valsF row ((wordsAt b (o + 8 + 8 * fr) (n - fr)).take j)).1)) (S2 := _) rfl (refAt60 b a (valsF row ((wordsAt b (o + 8 + 8 * fr) (n - fr)).take j)).1 bm br A1 c1 (x + 8 + 8 * ((fr + j : Nat) : Int)) (by omega) (by omega) hb ha0 ha1) ?_
                  rintro t182 S182 ⟨rfl, rfl⟩
                  refine AWL.y rfl rfl (B rfl) (Yv.move rfl (E rfl rfl)) ?_
                  refine AWL.y rfl rfl (B rfl) (Yv.extract rfl (E rfl rfl) rfl) ?_
                  refine AWL.y rfl rfl (B rfl) (Yv.extract rfl (E rfl rfl) rfl) ?_
                  refine AWL.y rfl rfl (B rfl) (Yv.assign rfl (E rfl rfl)) ?_
                  refine AWL.y rfl rfl (B rfl) (Yv.assign rfl (E rfl rfl)) ?_
                  refine AWL.retype (k := 18) (t' := .v (.int .u64 (wordAt b (o + 8 * (fr + j) + 8)))) rfl (fun w L u h => by rw [← atR_in hxo hxout]; exact h) ?_
                  refine AWL.nil ?_
                  refine AW.mid1 (α := (Option Addr × Nat) × (Option Addr × Nat)) (fun q => [(0, true, .v (vp br)), (1, true, .v (.int .u64 x)), (4, true, .v (vp b4)), (8, true, .v (vp b8)), (9, true, .v (.int .u64 (n : Int))), (17, true, .v (.int .u64 ((fr + j : Nat) : Int)))]) (fun q => (RQ bm br b a q.1.1 q.1.2 (valsF row ((wordsAt b (o + 8 + 8 * fr) (n - fr)).take (j + 1))).1) ++ [.box b4 24 [.v (.int .i64 0), .v (.int .i64 0), .v (.string ⟨#[]⟩), .v (.slice none 0 0)], .box b8 24 [.v (.int .i64 ((wordAt b o) / 2 % 16)), .v (.int .i64 g2), .v (.string ⟨#[]⟩), .v (.slice q.2.1 (j + 1) q.2.2)], .row q.2.1 (j + 1) q.2.2 54 2 ((valsF row ((wordsAt b (o + 8 + 8 * fr) (n - fr)).take (j + 1))).2.flatMap refCells)]) (fun _ => True) ?_ ?_
                  ·
                    refine AW.regionP rfl ?_
                    refine AWP.take (i := 0) rfl (by kernel_rfl) (by kernel_rfl) (by kernel_rfl) rfl rfl (B rfl) (freeField rfl fo_24_3 (E rfl rfl)) ?_
                    refine AWP.take (i := 2) rfl (by kernel_rfl) (by kernel_rfl) (by kernel_rfl) rfl rfl (B rfl) (freeMove rfl (E rfl rfl)) ?_
                    refine AWP.take (i := 3) rfl (by kernel_rfl) (by kernel_rfl) (by kernel_rfl) rfl rfl (B rfl) (freeMove rfl (E rfl rfl)) ?_
                    refine AWP.two (i := 1) (j := 4) (by kernel_rfl) rfl rfl ?_ ?_
                    ·
                      refine AWL.y rfl rfl (B rfl) (Yv.loadBox rfl ag_22 (i := 4) rfl (E rfl rfl) rfl) ?_
                      refine AWL.nil ?_
                      refine AWP.one (i := 4) (by kernel_rfl) rfl ?_
                      refine AWL.call rfl rfl (B rfl) rfl ce_51 (E rfl rfl) (evsC (E rfl rfl) (evsC (E rfl rfl) evs0)) (S1 := (RQ bm br b a A1 c1 (valsF row ((wordsAt b (o + 8 + 8 * fr) (n - fr)).take j)).1)) (S2 := _) rfl (refRef51 b a (valsF row ((wordsAt b (o + 8 + 8 * fr) (n - fr)).take j)).1 bm br A1 c1 (wordAt b (o + 8 * (fr + j) + 8)) (wordAt_range b _).1 (wordAt_range b _).2 (by omega)) ?_
                      rintro t189 S189 ⟨rfl, A189, c189, E189, rfl⟩
                      refine AWL.dropAt 3 ?_
                      refine AWL.nil ?_
                      refine AWP.one (i := 5) (by kernel_rfl) rfl ?_
                      refine AWL.buildSliceE rfl rfl (B rfl) rfl el_22 (B rfl) rfl (evsC (E rfl rfl) evs0) (Nat.le_of_ble_eq_true rfl) rfl rfl ?_
                      refine AWL.nil ?_
                      refine AWP.one (i := 6) (by kernel_rfl) rfl ?_
                      refine AWL.appendRow (i := 5) rfl rfl (B rfl) rfl el_22 (B rfl) rfl (E rfl rfl) (SrcT.sl so_22 (B rfl) (E rfl rfl) rfl) (by unfold maxLen; omega) (by omega) (fun A191 c191 => ?_)
                      refine AWL.nil ?_
                      refine AWP.one (i := 7) (by kernel_rfl) rfl ?_
                      refine AWL.y rfl rfl (B rfl) (Yv.fieldBox rfl fo_24_3 (E rfl rfl)) ?_
                      refine AWL.nil ?_
                      refine AWP.one (i := 8) (by kernel_rfl) rfl ?_
                      refine AWL.storeBox (i := 4) rfl rfl rfl ag_22 rfl (E rfl rfl) (E rfl rfl) rfl rfl (Nat.le_of_ble_eq_true rfl) ?_
                      refine AWL.nil ?_
                      refine AWP.done (by kernel_rfl) ?_
                      rw [vals_take (by omega), hwj, out_flat]
                      exact ⟨((A189, c189), (A191, c191)), trivial, Sub.cons rfl rfl (Sub.cons rfl rfl (Sub.cons rfl rfl (Sub.cons rfl rfl (Sub.cons rfl rfl (Sub.cons rfl rfl Sub.nil))))), rfl⟩
                    ·
                      refine AWL.call rfl rfl (B rfl) rfl ce_51 (E rfl rfl) (evsC (E rfl rfl) (evsC (E rfl rfl) evs0)) (S1 := (RQ bm br b a A1 c1 (valsF row ((wordsAt b (o + 8 + 8 * fr) (n - fr)).take j)).1)) (S2 := _) rfl (refRef51 b a (valsF row ((wordsAt b (o + 8 + 8 * fr) (n - fr)).take j)).1 bm br A1 c1 (wordAt b (o + 8 * (fr + j) + 8)) (wordAt_range b _).1 (wordAt_range b _).2 (by omega)) ?_
                      rintro t189 S189 ⟨rfl, A189, c189, E189, rfl⟩
                      refine AWL.dropAt 3 ?_
                      refine AWL.nil ?_
                      refine AWP.two (i := 1) (j := 5) (by kernel_rfl) rfl rfl ?_ ?_
                      ·
                        refine AWL.y rfl rfl (B rfl) (Yv.loadBox rfl ag_22 (i := 4) rfl (E rfl rfl) rfl) ?_
                        refine AWL.nil ?_
                        refine AWP.one (i := 5) (by kernel_rfl) rfl ?_
                        refine AWL.buildSliceE rfl rfl (B rfl) rfl el_22 (B rfl) rfl (evsC (E rfl rfl) evs0) (Nat.le_of_ble_eq_true rfl) rfl rfl ?_
                        refine AWL.nil ?_
                        refine AWP.one (i := 6) (by kernel_rfl) rfl ?_
                        refine AWL.appendRow (i := 5) rfl rfl (B rfl) rfl el_22 (B rfl) rfl (E rfl rfl) (SrcT.sl so_22 (B rfl) (E rfl rfl) rfl) (by unfold maxLen; omega) (by omega) (fun A191 c191 => ?_)
                        refine AWL.nil ?_
                        refine AWP.one (i := 7) (by kernel_rfl) rfl ?_
                        refine AWL.y rfl rfl (B rfl) (Yv.fieldBox rfl fo_24_3 (E rfl rfl)) ?_
                        refine AWL.nil ?_
                        refine AWP.one (i := 8) (by kernel_rfl) rfl ?_
                        refine AWL.storeBox (i := 4) rfl rfl rfl ag_22 rfl (E rfl rfl) (E rfl rfl) rfl rfl (Nat.le_of_ble_eq_true rfl) ?_
                        refine AWL.nil ?_
                        refine AWP.done (by kernel_rfl) ?_
                        rw [vals_take (by omega), hwj, out_flat]
                        exact ⟨((A189, c189), (A191, c191)), trivial, Sub.cons rfl rfl (Sub.cons rfl rfl (Sub.cons rfl rfl (Sub.cons rfl rfl (Sub.cons rfl rfl (Sub.cons rfl rfl Sub.nil))))), rfl⟩
                      ·
                        refine AWL.buildSliceE rfl rfl (B rfl) rfl el_22 (B rfl) rfl (evsC (E rfl rfl) evs0) (Nat.le_of_ble_eq_true rfl) rfl rfl ?_
                        refine AWL.nil ?_
                        refine AWP.one (i := 1) (by kernel_rfl) rfl ?_
                        refine AWL.y rfl rfl (B rfl) (Yv.loadBox rfl ag_22 (i := 4) rfl (E rfl rfl) rfl) ?_
                        refine AWL.nil ?_
                        refine AWP.one (i := 6) (by kernel_rfl) rfl ?_
                        refine AWL.appendRow (i := 5) rfl rfl (B rfl) rfl el_22 (B rfl) rfl (E rfl rfl) (SrcT.sl so_22 (B rfl) (E rfl rfl) rfl) (by unfold maxLen; omega) (by omega) (fun A191 c191 => ?_)
                        refine AWL.nil ?_
                        refine AWP.one (i := 7) (by kernel_rfl) rfl ?_
                        refine AWL.y rfl rfl (B rfl) (Yv.fieldBox rfl fo_24_3 (E rfl rfl)) ?_
                        refine AWL.nil ?_
                        refine AWP.one (i := 8) (by kernel_rfl) rfl ?_
                        refine AWL.storeBox (i := 4) rfl rfl rfl ag_22 rfl (E rfl rfl) (E rfl rfl) rfl rfl (Nat.le_of_ble_eq_true rfl) ?_
                        refine AWL.nil ?_
                        refine AWP.done (by kernel_rfl) ?_
                        rw [vals_take (by omega), hwj, out_flat]
                        exact ⟨((A189, c189), (A191, c191)), trivial, Sub.cons rfl rfl (Sub.cons rfl rfl (Sub.cons rfl rfl (Sub.cons rfl rfl (Sub.cons rfl rfl (Sub.cons rfl rfl Sub.nil))))), rfl⟩
                  ·
                    rintro ⟨qa, qo⟩ env1 hmid hsub1
                    refine AW.weaken hsub1 ?_
                    refine AW.region ?_
                    refine AWL.y rfl rfl (B rfl) (Yv.move rfl (E rfl rfl)) ?_
                    refine AWL.y rfl rfl (B rfl) (Yv.addN_u64 rfl (E rfl rfl) (E rfl rfl) (fun hg => by omega)) ?_
                    refine AWL.y rfl rfl (B rfl) (Yv.assign rfl (E rfl rfl)) ?_
                    refine AWL.nil ?_
                    refine ⟨j + 1, qa.1, qa.2, qo.1, qo.2, by omega, by omega, Sub.cons rfl rfl (Sub.cons rfl rfl (Sub.cons rfl rfl (Sub.cons rfl rfl (Sub.cons rfl rfl (Sub.cons rfl (by congr 2) Sub.nil))))), rfl⟩
                ·
                  try replace h8f := of_decide_eq_false h8f
                  obtain rfl : j = n - fr := by omega
                  rw [List.take_of_length_le (by rw [wordsAt_len]; omega)]
                  refine AW.freezeCell 5 4 3 rfl (by decide) rfl rfl ?_
                  refine AW.exit ?_
                  exact ⟨(((valsF row (wordsAt b (o + 8 + 8 * fr) (n - fr))).1, ⟨((wordAt b o) / 2 % 16), g2, [], (valsF row (wordsAt b (o + 8 + 8 * fr) (n - fr))).2⟩), (A1, c1)), hg2, Sub.cons rfl rfl (Sub.cons rfl rfl Sub.nil), rfl⟩
        ·
          rintro ⟨⟨row2, t2⟩, A2, c2⟩ hbd
          obtain ⟨hr2, hto⟩ := body_ok hb hws hwr.1 hwr.2 ho8 hol hrr hb1 hbd
          refine AW.rseq ?_
          refine AWL.y rfl rfl (B rfl) (Yv.loadBoxA rfl ag_24 (i := 4) rfl (E rfl rfl) rfl rfl) ?_
          refine AWL.callP rfl rfl (B rfl) rfl ce_32 (E rfl rfl) (evsC (E rfl rfl) evs0) (refMay32 t2 hto) (fun t S h => h) ?_
          refine AWL.y rfl rfl (B rfl) (Yv.assign rfl (E rfl rfl)) ?_
          refine AWL.nil ?_
          refine AW.rseq ?_
          refine AWL.y rfl rfl (B rfl) (Yv.loadBoxA rfl ag_24 (i := 4) rfl (E rfl rfl) rfl rfl) ?_
          refine AWL.y rfl rfl (B rfl) (Yv.move rfl (E rfl rfl)) ?_
          refine AWL.storeBox (i := 3) rfl rfl rfl ag_24 rfl (E rfl rfl) (E rfl rfl) rfl rfl (Nat.le_of_ble_eq_true rfl) ?_
          refine AWL.y rfl rfl (B rfl) (Yv.assign rfl (E rfl rfl)) ?_
          refine AWL.nil ?_
          refine AW.ret (retI (.cellA (i := 3) rfl ag_24 rfl rfl rfl (.tmp rfl .nil)) ?_)
          exact ⟨t2, madeF t2, row2, A2, c2, _, _, rfl, rfl, thingR_some ho hb0 hb1 hbd⟩

end Go.Proofs.Ytbndnmmceccbkaa
