/-
  CONTRACTS of the heap package: words read; walked by program.
-/
import Derived.Test.YtbndnmmceccbkaaWk6
import Derived.Test.YtbndnmmceccbkaaRead
namespace Go.Proofs.Ytbndnmmceccbkaa
open Go Go.RowKit
set_option linter.unusedVariables false

set_option maxHeartbeats 400000 in
theorem value53 (b : List UInt8) (a : Int) (row : List Int) (bm br : Nat) (A : Option Addr) (c : Nat) (x : Int) (h0 : 0 ≤ x) (h1 : x ≤ 18446744073709551615) (hr : row.length ≤ 1099511627776) :
    ACalls Try.prog 53 [.v (vp br), .v (.int .u64 x)] (RS bm br b a A c row) (fun t_ S => t_ = .agg (refCells (valR row x).2) ∧ ∃ A' c' E, S = (RS bm br b a A' c' (valR row x).1) ++ [E]) := by
  refine ACalls.intro Try.func53 rfl Try.ntmps53 (Nat.le_of_ble_eq_true rfl) rfl fun X w0 => ?_
  refine AW.rseq ?_
  refine AWL.allocOp rfl rfl (B rfl) rfl zc_54 (fun b4 => ?_)
  refine AWL.nil ?_
  refine AW.seq ?_
  refine AW.rseq ?_
  refine AWL.y rfl rfl (B rfl) (Yv.move rfl (E rfl rfl)) ?_
  refine AWL.y rfl rfl (B rfl) (Yv.andN_u64 1 2 (by decide) (by decide) (by decide) rfl (E rfl rfl) (E rfl rfl) (fun hg => ⟨by omega, by omega⟩)) ?_
  refine AWL.y rfl rfl (B rfl) (Yv.eql rfl (E rfl rfl) (E rfl rfl)) ?_
  refine AWL.nil ?_
  refine AW.cond rfl (fun h0t => ?_) (fun h0f => ?_)
  ·
    try replace h0t := of_decide_eq_true h0t
    refine AW.rseq ?_
    refine AWL.y rfl rfl (B rfl) (Yv.move rfl (E rfl rfl)) ?_
    refine AWL.y rfl rfl (B rfl) (Yv.conv rfl Try.underlying29 kd_2 (E rfl rfl)) ?_
    refine AWL.y rfl rfl (B rfl) (Yv.shrC 2 (by decide) (by decide) (by decide) rfl (E rfl rfl) (E rfl rfl)) ?_
    refine AWL.y rfl rfl (B rfl) (Yv.buildS rfl sh_54 (evpC (E rfl rfl) (evpC (E rfl rfl) evp0)) (fun _ => rfl)) ?_
    refine AWL.storeBox (i := 3) rfl rfl rfl ag_54 rfl (E rfl rfl) (E rfl rfl) rfl rfl (Nat.le_of_ble_eq_true rfl) ?_
    refine AWL.nil ?_
    refine AW.ret (retI (.cellA (i := 3) rfl ag_54 rfl rfl rfl .nil) ?_)
    rw [valR_odd h0t]
    exact ⟨rfl, A, c, _, rfl⟩
  ·
    try replace h0f := of_decide_eq_false h0f
    refine AW.skip ?_
    refine AW.rseq ?_
    refine AWL.y rfl rfl (B rfl) (Yv.move rfl (E rfl rfl)) ?_
    refine AWL.y rfl rfl (B rfl) (Yv.nilChk rfl (E rfl rfl)) ?_
    refine AWL.y rfl rfl (B rfl) (Yv.fieldBox rfl fo_84_2 (E rfl rfl)) ?_
    refine AWL.y rfl rfl (B rfl) (Yv.loadBox rfl ag_82 (i := 1) rfl (E rfl rfl) rfl) ?_
    refine AWL.y rfl rfl (B rfl) (Yv.move rfl (E rfl rfl)) ?_
    refine AWL.y rfl rfl (B rfl) (Yv.lookup2 (k := .i _ _) (i := 0) rfl mp_82 rfl (E rfl rfl) (E rfl rfl) rfl (mapE_good _ _ _)) ?_
    rw [getK_mapE]
    refine AWL.y rfl rfl (B rfl) (Yv.move rfl (E rfl rfl)) ?_
    refine AWL.y rfl rfl (B rfl) (Yv.extract rfl (E rfl rfl) rfl) ?_
    refine AWL.y rfl rfl (B rfl) (Yv.extract rfl (E rfl rfl) rfl) ?_
    refine AWL.y rfl rfl (B rfl) (Yv.assign rfl (E rfl rfl)) ?_
    refine AWL.y rfl rfl (B rfl) (Yv.assign rfl (E rfl rfl)) ?_
    refine AWL.nil ?_
    refine AW.seq ?_
    refine AW.rseq ?_
    refine AWL.y rfl rfl (B rfl) (Yv.move rfl (E rfl rfl)) ?_
    refine AWL.y rfl rfl (B rfl) (Yv.not rfl (E rfl rfl)) ?_
    refine AWL.nil ?_
    rcases hix : ixOf row x with _ | ix
    ·
      refine AW.cond rfl (fun h1t => ?_) (fun h1f => ?_)
      ·
        refine AW.rseq ?_
        refine AWL.y rfl rfl (B rfl) (Yv.move rfl (E rfl rfl)) ?_
        refine AWL.y rfl rfl (B rfl) (Yv.nilChk rfl (E rfl rfl)) ?_
        refine AWL.y rfl rfl (B rfl) (Yv.fieldBox rfl fo_84_3 (E rfl rfl)) ?_
        refine AWL.y rfl rfl (B rfl) (Yv.loadBox rfl ag_41 (i := 1) rfl (E rfl rfl) rfl) ?_
        refine AWL.y rfl rfl (B rfl) (Yv.lenV rfl so_41 (E rfl rfl)) ?_
        refine AWL.y rfl rfl (B rfl) (Yv.assign rfl (E rfl rfl)) ?_
        refine AWL.nil ?_
        refine AW.rseq ?_
        refine AWL.y rfl rfl (B rfl) (Yv.move rfl (E rfl rfl)) ?_
        refine AWL.y rfl rfl (B rfl) (Yv.nilChk rfl (E rfl rfl)) ?_
        refine AWL.y rfl rfl (B rfl) (Yv.fieldBox rfl fo_84_2 (E rfl rfl)) ?_
        refine AWL.y rfl rfl (B rfl) (Yv.loadBox rfl ag_82 (i := 1) rfl (E rfl rfl) rfl) ?_
        refine AWL.y rfl rfl (B rfl) (Yv.move rfl (E rfl rfl)) ?_
        refine AWL.y rfl rfl (B rfl) (Yv.move rfl (E rfl rfl)) ?_
        refine AWL.mapUpd (k := .i _ _) (i := 0) rfl rfl (.inl rfl) mp_82 rfl (E rfl rfl) (E rfl rfl) (E rfl rfl) rfl rfl (mapE_good _ _ _) ?_
        refine AWL.nil ?_
        refine AW.region ?_
        refine AWL.y rfl rfl (B rfl) (Yv.move rfl (E rfl rfl)) ?_
        refine AWL.y rfl rfl (B rfl) (Yv.move rfl (E rfl rfl)) ?_
        refine AWL.y rfl rfl (B rfl) (Yv.nilChk rfl (E rfl rfl)) ?_
        refine AWL.y rfl rfl (B rfl) (Yv.fieldBox rfl fo_84_3 (E rfl rfl)) ?_
        refine AWL.y rfl rfl (B rfl) (Yv.loadBox rfl ag_41 (i := 1) rfl (E rfl rfl) rfl) ?_
        refine AWL.y rfl rfl (B rfl) (Yv.move rfl (E rfl rfl)) ?_
        refine AWL.buildSlice1 rfl rfl (B rfl) rfl el_41 rfl (evsC (E rfl rfl) evs0) (Nat.le_of_ble_eq_true rfl) rfl rfl ?_
        refine AWL.appendRow (i := 2) rfl rfl (B rfl) rfl el_41 (B rfl) rfl (E rfl rfl) (SrcT.sl so_41 (B rfl) (E rfl rfl) rfl) (by unfold maxLen; omega) (by omega) (fun A43 c43 => ?_)
        refine AWL.y rfl rfl (B rfl) (Yv.nilChk rfl (E rfl rfl)) ?_
        refine AWL.y rfl rfl (B rfl) (Yv.fieldBox rfl fo_84_3 (E rfl rfl)) ?_
        refine AWL.storeBox (i := 1) rfl rfl rfl ag_41 rfl (E rfl rfl) (E rfl rfl) rfl rfl (Nat.le_of_ble_eq_true rfl) ?_
        refine AWL.nil ?_
        refine AW.rseq ?_
        refine AWL.y rfl rfl (B rfl) (Yv.move rfl (E rfl rfl)) ?_
        refine AWL.y rfl rfl (B rfl) (Yv.buildS rfl sh_54 (evpC (E rfl rfl) (evpC (E rfl rfl) evp0)) (fun _ => rfl)) ?_
        refine AWL.storeBox (i := 3) rfl rfl rfl ag_54 rfl (E rfl rfl) (E rfl rfl) rfl rfl (Nat.le_of_ble_eq_true rfl) ?_
        refine AWL.nil ?_
        refine AW.ret (retI (.cellA (i := 3) rfl ag_54 rfl rfl rfl .nil) ?_)
        have e3 := putK_mapE .u64 x row 0 hix
        rw [Nat.zero_add] at e3
        rw [valR_new h0f hix]
        exact ⟨rfl, A43, c43, _, (congrArg (fun q => q ++ [_]) (RS_new e3)).symm⟩
      · exact absurd h1f (by simp)
    ·
      refine AW.cond rfl (fun h1t => ?_) (fun h1f => ?_)
      · exact absurd h1t (by simp)
      ·
        refine AW.skip ?_
        refine AW.rseq ?_
        refine AWL.y rfl rfl (B rfl) (Yv.move rfl (E rfl rfl)) ?_
        refine AWL.y rfl rfl (B rfl) (Yv.buildS rfl sh_54 (evpC (E rfl rfl) (evpC (E rfl rfl) evp0)) (fun _ => rfl)) ?_
        refine AWL.storeBox (i := 3) rfl rfl rfl ag_54 rfl (E rfl rfl) (E rfl rfl) rfl rfl (Nat.le_of_ble_eq_true rfl) ?_
        refine AWL.nil ?_
        refine AW.ret (retI (.cellA (i := 3) rfl ag_54 rfl rfl rfl .nil) ?_)
        have e2 : refCells ⟨2, (ix : Int)⟩ = [.v (.int .i64 2), .v (.int .i64 ((0 + ix : Nat) : Int))] := by rw [Nat.zero_add]; rfl
        rw [valR_in h0f hix, e2]
        exact ⟨rfl, A, c, _, rfl⟩

set_option maxHeartbeats 400000 in
theorem values62 (b : List UInt8) (a : Int) (row : List Int) (bm br : Nat) (A : Option Addr) (c : Nat) (ws : List Int) (fr n : Nat) (hb : b.length ≤ 549755813888) (hws : ws.length ≤ 549755813888) (h8 : fr % 8 = 0) (hn : fr + 8 * n ≤ b.length) (hrr : RowR b ws row) :
    ACalls Try.prog 62 [.v (vp br), .v (.int .u64 (fr : Int)), .v (.int .u64 (n : Int))] (RS bm br b a A c row) (fun t_ S => t_ = refsT (valsF row (wordsAt b fr n)).2 ∧ ∃ A' c', S = (RS bm br b a A' c' (valsF row (wordsAt b fr n)).1)) := by
  have hwl := wordsAt_len b fr n
  have hsrc := src_words (b := b) (ws := ws) h8 hn
  refine ACalls.intro Try.func62 rfl Try.ntmps62 (Nat.le_of_ble_eq_true rfl) rfl fun X w0 => ?_
  refine AW.rseq ?_
  refine AWL.y rfl rfl (B rfl) (Yv.assign rfl (E rfl rfl)) ?_
  refine AWL.nil ?_
  refine AW.rseq ?_
  refine AWL.y rfl rfl (B rfl) (Yv.assign rfl (E rfl rfl)) ?_
  refine AWL.nil ?_
  refine AW.rowNil 54 2 ?_
  refine AW.seq ?_
  refine AW.rseq ?_
  refine AWL.y rfl rfl (B rfl) (Yv.move rfl (E rfl rfl)) ?_
  refine AWL.y rfl rfl (B rfl) (Yv.move rfl (E rfl rfl)) ?_
  refine AWL.nil ?_
  refine AW.block ?_
  refine AW.loop5 (fun (j : Nat) (A1 : Option Addr) (c1 : Nat) (Ao : Option Addr) (co : Nat) => [(0, true, .v (vp br)), (1, true, .v (.int .u64 (fr : Int))), (7, true, .v (.slice Ao j co)), (9, true, .v (.int .u64 (n : Int))), (10, true, .v (.int .u64 (j : Int)))]) (fun (j : Nat) (A1 : Option Addr) (c1 : Nat) (Ao : Option Addr) (co : Nat) => ((RS bm br b a A1 c1 (valsF row ((wordsAt b fr n).take j)).1) ++ [.row Ao j co 54 2 ((valsF row ((wordsAt b fr n).take j)).2.flatMap refCells)])) (fun (j : Nat) (A1 : Option Addr) (c1 : Nat) (Ao : Option Addr) (co : Nat) => j ≤ n) (fun (j : Nat) (A1 : Option Addr) (c1 : Nat) (Ao : Option Addr) (co : Nat) => n - j) 0 A c none 0 ?_ ?_ ?_ ?_
  · exact Nat.zero_le _
  · exact (Sub.cons rfl rfl (Sub.cons rfl rfl (Sub.cons rfl rfl (Sub.cons rfl rfl (Sub.cons rfl rfl Sub.nil)))))
  · rfl
  ·
    intro j A1 c1 Ao co hinv
    have hok := valsF_ok hrr (l := (wordsAt b fr n).take j) (fun x hx => hsrc x (List.mem_of_mem_take hx))
    have hlen := hok.len
    refine AW.rseq ?_
    refine AWL.y rfl rfl (B rfl) (Yv.lss rfl (E rfl rfl) (E rfl rfl)) ?_
    refine AWL.nil ?_
    refine AW.seq ?_
    refine AW.cond rfl (fun h0t => ?_) (fun h0f => ?_)
    ·
      try replace h0t := of_decide_eq_true h0t
      have hwj := words_at b fr n j (by omega)
      refine AW.skip ?_
      refine AW.seq ?_
      refine AW.block ?_
      refine AW.rseq ?_
      refine AWL.y rfl rfl (B rfl) (Yv.move rfl (E rfl rfl)) ?_
      refine AWL.y rfl rfl (B rfl) (Yv.assign rfl (E rfl rfl)) ?_
      refine AWL.nil ?_
      refine AW.region ?_
      refine AWL.y rfl rfl (B rfl) (Yv.move rfl (E rfl rfl)) ?_
      refine AWL.y rfl rfl (B rfl) (Yv.move rfl (E rfl rfl)) ?_
      refine AWL.y rfl rfl (B rfl) (Yv.move rfl (E rfl rfl)) ?_
      refine AWL.y rfl rfl (B rfl) (Yv.nilChk rfl (E rfl rfl)) ?_
      refine AWL.y rfl rfl (B rfl) (Yv.fieldBox rfl fo_84_0 (E rfl rfl)) ?_
      refine AWL.y rfl rfl (B rfl) (Yv.loadBox rfl ag_40 (i := 1) rfl (E rfl rfl) rfl) ?_
      refine AWL.y rfl rfl (B rfl) (Yv.move rfl (E rfl rfl)) ?_
      refine AWL.y rfl rfl (B rfl) (Yv.move rfl (E rfl rfl)) ?_
      refine AWL.y rfl rfl (B rfl) (Yv.mulN_u64 rfl (E rfl rfl) (E rfl rfl) (fun hg => by omega)) ?_
      refine AWL.y rfl rfl (B rfl) (Yv.addN_u64 rfl (E rfl rfl) (E rfl rfl) (fun hg => by omega)) ?_
      refine AWL.callP rfl rfl (B rfl) rfl ce_61 (E rfl rfl) (evsC (E rfl rfl) (evsC (E rfl rfl) evs0)) (word61 b (fr + 8 * j) (by omega) (by omega)) (fun t S h => h) ?_
      refine AWL.call rfl rfl (B rfl) rfl ce_53 (E rfl rfl) (evsC (E rfl rfl) (evsC (E rfl rfl) evs0)) (S1 := (RS bm br b a A1 c1 (valsF row ((wordsAt b fr n).take j)).1)) (S2 := _) rfl (value53 b a (valsF row ((wordsAt b fr n).take j)).1 bm br A1 c1 (wordAt b (fr + 8 * j)) (wordAt_range b _).1 (wordAt_range b _).2 (by omega)) ?_
      rintro t24 S24 ⟨rfl, A24, c24, E24, rfl⟩
      refine AWL.dropAt 3 ?_
      refine AWL.buildSliceE rfl rfl (B rfl) rfl el_22 (B rfl) rfl (evsC (E rfl rfl) evs0) (Nat.le_of_ble_eq_true rfl) rfl rfl ?_
      refine AWL.appendRow (i := 3) rfl rfl (B rfl) rfl el_22 (B rfl) rfl (E rfl rfl) (SrcT.sl so_22 (B rfl) (E rfl rfl) rfl) (by unfold maxLen; omega) (by omega) (fun A26 c26 => ?_)
      refine AWL.y rfl rfl (B rfl) (Yv.assign rfl (E rfl rfl)) ?_
      refine AWL.nil ?_
      refine AW.region ?_
      refine AWL.y rfl rfl (B rfl) (Yv.addN_u64 rfl (E rfl rfl) (E rfl rfl) (fun hg => by omega)) ?_
      refine AWL.y rfl rfl (B rfl) (Yv.move rfl (E rfl rfl)) ?_
      refine AWL.nil ?_
      refine ⟨j + 1, A24, c24, A26, c26, by omega, by omega, Sub.cons rfl rfl (Sub.cons rfl rfl (Sub.cons rfl rfl (Sub.cons rfl rfl (Sub.cons rfl (by simp) Sub.nil)))), ?_⟩
      rw [vals_take (by omega), hwj, out_flat]
      rfl
    ·
      try replace h0f := of_decide_eq_false h0f
      refine AW.exit ?_
      refine AW.freeze 3 7 rfl (B rfl) rfl ?_
      refine AW.rseq ?_
      refine AWL.y rfl rfl (B rfl) (Yv.move rfl (E rfl rfl)) ?_
      refine AWL.y rfl rfl (B rfl) (Yv.assign rfl (E rfl rfl)) ?_
      refine AWL.nil ?_
      refine AW.ret (retI (.tmp rfl .nil) ?_)
      have hj : j = n := by omega
      subst hj
      rw [List.take_of_length_le (by omega)]
      exact ⟨rfl, A1, c1, rfl⟩

end Go.Proofs.Ytbndnmmceccbkaa
