/-
  CONTRACTS of the x64 package: bytes that grow; walked by program.
-/
import Derived.Test.YtjndpakhmgapjaaDoorWk1
import Derived.Test.YtjndpakhmgapjaaDoorEnc
namespace Go.Proofs.YtjndpakhmgapjaaDoor
open Go Go.RowKit
set_option linter.unusedVariables false
set_option linter.unnecessarySimpa false
set_option linter.unusedSimpArgs false

set_option maxHeartbeats 400000 in
theorem put35 (b : Nat) (A : Option Addr) (c : List UInt8) (bs : List UInt8) (l : List Int) (hb : bs.length + l.length ≤ 1000 := by simp [putF, immF, leBytes_length] <;> omega) :
    ACalls Tryd.prog 28 [.v (cp b), .sl 1 (ints l)] (CB b A c bs) (fun t_ S => t_ = .v (cp b) ∧ ∃ A' c', S = CB b A' c' (bs ++ putF l)) := by
  refine ACalls.intro Tryd.func28 rfl Tryd.ntmps28 (Nat.le_of_ble_eq_true rfl) rfl fun X w0 => ?_
  refine AW.rseq ?_
  refine AWL.y rfl rfl (B rfl) (Yv.assign rfl (E rfl rfl)) ?_
  refine AWL.nil ?_
  refine AW.seq ?_
  refine AW.rseq ?_
  refine AWL.y rfl rfl (B rfl) (Yv.move rfl (E rfl rfl)) ?_
  refine AWL.y rfl rfl (B rfl) (Yv.lenSl rfl so_43 (B rfl) (E rfl rfl) len_ints) ?_
  refine AWL.y rfl rfl (B rfl) (Yv.move rfl (E rfl rfl)) ?_
  refine AWL.nil ?_
  refine AW.block ?_
  refine AW.loop3 (fun (j : Nat) (A1 : Option Addr) (c1 : List UInt8) => [(0, true, .v (cp b)), (7, true, .sl 1 (ints l)), (8, true, .v (.int .i64 (l.length : Int))), (9, true, .v (.int .i64 (j : Int)))]) (fun (j : Nat) (A1 : Option Addr) (c1 : List UInt8) => (CB b A1 c1 (bs ++ putF (l.take j)))) (fun (j : Nat) (A1 : Option Addr) (c1 : List UInt8) => j ≤ l.length) (fun (j : Nat) (A1 : Option Addr) (c1 : List UInt8) => l.length - j) 0 A c ?_ ?_ ?_ ?_
  · exact Nat.zero_le _
  · exact (Sub.cons rfl rfl (Sub.cons rfl rfl (Sub.cons rfl rfl (Sub.cons rfl rfl Sub.nil))))
  · simp [putF]
  ·
   intro j A1 c1 hinv
   have hlp : (bs ++ putF (l.take j)).length = bs.length + j := by simp [putF]; omega
   refine AW.rseq ?_
   refine AWL.y rfl rfl (B rfl) (Yv.lss rfl (E rfl rfl) (E rfl rfl)) ?_
   refine AWL.nil ?_
   refine AW.seq ?_
   refine AW.cond rfl (fun h0t => ?_) (fun h0f => ?_)
   ·
    try replace h0t := of_decide_eq_true h0t
    refine AW.skip ?_
    refine AW.seq ?_
    refine AW.block ?_
    refine AW.rseq ?_
    refine AWL.y rfl rfl (B rfl) (Yv.indexSl rfl ss_43 (B rfl) (E rfl rfl) (E rfl rfl) (fun hg => ⟨rfl, (by first | omega | (simp only [len_ints, len_u8s]; omega))⟩)) ?_
    refine AWL.y rfl rfl (B rfl) (Yv.loadRp rfl ag_3 (E rfl rfl) (fun hg => ints_get (by omega))) ?_
    refine AWL.y rfl rfl (B rfl) (Yv.assign rfl (E rfl rfl)) ?_
    refine AWL.nil ?_
    refine AW.region ?_
    refine AWL.y rfl rfl (B rfl) (Yv.move rfl (E rfl rfl)) ?_
    refine AWL.y rfl rfl (B rfl) (Yv.move rfl (E rfl rfl)) ?_
    refine AWL.y rfl rfl (B rfl) (Yv.nilChk rfl (E rfl rfl)) ?_
    refine AWL.y rfl rfl (B rfl) (Yv.fieldBox rfl fo_49_0 (E rfl rfl)) ?_
    refine AWL.y rfl rfl (B rfl) (Yv.loadBox rfl ag_24 (i := 1) rfl (E rfl rfl) rfl) ?_
    refine AWL.y rfl rfl (B rfl) (Yv.move rfl (E rfl rfl)) ?_
    refine AWL.y rfl rfl (B rfl) (Yv.conv rfl Tryd.underlying3 kd_5 (E rfl rfl)) ?_
    refine AWL.buildSlice1 rfl rfl (B rfl) rfl el_24 rfl (evsC (E rfl rfl) evs0) (Nat.le_of_ble_eq_true rfl) rfl rfl ?_
    refine AWL.appendFull (i := 0) [byteOf (l.getD j 0)] (put_nb _) rfl rfl (B rfl) rfl el_24 rfl (E rfl rfl) (SrcT.sl so_24 (B rfl) (E rfl rfl) rfl) (by unfold maxLen; omega) (by omega) (fun A21 c21 => ?_)
    refine AWL.y rfl rfl (B rfl) (Yv.nilChk rfl (E rfl rfl)) ?_
    refine AWL.y rfl rfl (B rfl) (Yv.fieldBox rfl fo_49_0 (E rfl rfl)) ?_
    refine AWL.storeBox (i := 1) rfl rfl rfl ag_24 rfl (E rfl rfl) (E rfl rfl) rfl rfl (Nat.le_of_ble_eq_true rfl) ?_
    refine AWL.nil ?_
    refine AW.region ?_
    refine AWL.y rfl rfl (B rfl) (Yv.addN_i64 rfl (E rfl rfl) (E rfl rfl) (fun hg => by omega)) ?_
    refine AWL.y rfl rfl (B rfl) (Yv.move rfl (E rfl rfl)) ?_
    refine AWL.nil ?_
    refine ⟨j + 1, A21, c21, by omega, by omega, Sub.cons rfl rfl (Sub.cons rfl rfl (Sub.cons rfl rfl (Sub.cons rfl (by simp) Sub.nil))), ?_⟩
    rw [putF_take (by omega), ← List.append_assoc]
    rfl
   try replace h0f := of_decide_eq_false h0f
   refine AW.exit ?_
   refine AW.rseq ?_
   refine AWL.y rfl rfl (B rfl) (Yv.move rfl (E rfl rfl)) ?_
   refine AWL.y rfl rfl (B rfl) (Yv.assign rfl (E rfl rfl)) ?_
   refine AWL.nil ?_
   refine AW.ret (retI (.tmp rfl .nil) ?_)
   have hj : j = l.length := by omega
   subst hj
   rw [List.take_length]
   exact ⟨rfl, _, _, rfl⟩

set_option maxHeartbeats 400000 in
theorem rex34 (b : Nat) (A : Option Addr) (c : List UInt8) (bs : List UInt8) (wide : Bool) (p q : Int) (hp : 0 ≤ p ∧ p ≤ 15 := by first | assumption | decide | exact opF_range _) (hq : 0 ≤ q ∧ q ≤ 15 := by first | assumption | decide | exact opF_range _) (hb : bs.length + 20 ≤ 990 := by simp [putF, immF, leBytes_length] <;> omega) :
    ACalls Tryd.prog 27 [.v (cp b), .v (.bool wide), .v (.int .i64 p), .v (.int .i64 q)] (CB b A c bs) (fun t_ S => t_ = .v (cp b) ∧ ∃ A' c', S = CB b A' c' (bs ++ [byteOf (rexN wide p q)])) := by
  refine ACalls.intro Tryd.func27 rfl Tryd.ntmps27 (Nat.le_of_ble_eq_true rfl) rfl fun X w0 => ?_
  refine AW.rseq ?_
  refine AWL.y rfl rfl (B rfl) (Yv.assign rfl (E rfl rfl)) ?_
  refine AWL.nil ?_
  refine AW.rseq ?_
  refine AWL.y rfl rfl (B rfl) (Yv.move rfl (E rfl rfl)) ?_
  refine AWL.y rfl rfl (B rfl) (Yv.shrC 8 (by decide) (by decide) (by decide) rfl (E rfl rfl) (E rfl rfl)) ?_
  refine AWL.y rfl rfl (B rfl) (Yv.shlCN_i64 4 (by decide) (by decide) rfl (E rfl rfl) (E rfl rfl) (fun hg => by omega)) ?_
  refine AWL.y rfl rfl (B rfl) (Yv.bits rfl rfl (E rfl rfl) (E rfl rfl)) ?_
  refine AWL.y rfl rfl (B rfl) (Yv.move rfl (E rfl rfl)) ?_
  refine AWL.y rfl rfl (B rfl) (Yv.shrC 8 (by decide) (by decide) (by decide) rfl (E rfl rfl) (E rfl rfl)) ?_
  refine AWL.y rfl rfl (B rfl) (Yv.bits rfl rfl (E rfl rfl) (E rfl rfl)) ?_
  refine AWL.y rfl rfl (B rfl) (Yv.assign rfl (E rfl rfl)) ?_
  refine AWL.nil ?_
  refine AW.seq ?_
  refine AW.rseq ?_
  refine AWL.y rfl rfl (B rfl) (Yv.move rfl (E rfl rfl)) ?_
  refine AWL.nil ?_
  refine AW.cond rfl (fun h0t => ?_) (fun h0f => ?_)
  ·
   try replace h0t := of_decide_eq_true h0t
   subst h0t
   refine AW.region ?_
   refine AWL.y rfl rfl (B rfl) (Yv.move rfl (E rfl rfl)) ?_
   refine AWL.y rfl rfl (B rfl) (Yv.bits rfl rfl (E rfl rfl) (E rfl rfl)) ?_
   refine AWL.y rfl rfl (B rfl) (Yv.assign rfl (E rfl rfl)) ?_
   refine AWL.nil ?_
   refine AW.rseq ?_
   refine AWL.y rfl rfl (B rfl) (Yv.move rfl (E rfl rfl)) ?_
   refine AWL.y rfl rfl (B rfl) (Yv.move rfl (E rfl rfl)) ?_
   refine AWL.buildSlice1 rfl rfl (B rfl) rfl el_43 rfl (evsC (E rfl rfl) evs0) (Nat.le_of_ble_eq_true rfl) rfl rfl ?_
   refine AWL.call rfl rfl (B rfl) rfl ce_28 (E rfl rfl) (evsC (E rfl rfl) (evsC (E rfl rfl) evs0)) (S1 := CB _ _ _ _) (S2 := []) rfl (put35 b A c (bs) [_] (by simp; omega)) ?_
   rintro t23 S23 ⟨rfl, A23, c23, rfl⟩
   refine AWL.y rfl rfl (B rfl) (Yv.assign rfl (E rfl rfl)) ?_
   refine AWL.nil ?_
   refine AW.ret (retI (.tmp rfl .nil) ?_)
   exact ⟨rfl, _, _, (by rw [rex_or8 p q hp hq]; rfl)⟩
  try replace h0f := of_decide_eq_false h0f
  subst h0f
  refine AW.skip ?_
  refine AW.rseq ?_
  refine AWL.y rfl rfl (B rfl) (Yv.move rfl (E rfl rfl)) ?_
  refine AWL.y rfl rfl (B rfl) (Yv.move rfl (E rfl rfl)) ?_
  refine AWL.buildSlice1 rfl rfl (B rfl) rfl el_43 rfl (evsC (E rfl rfl) evs0) (Nat.le_of_ble_eq_true rfl) rfl rfl ?_
  refine AWL.call rfl rfl (B rfl) rfl ce_28 (E rfl rfl) (evsC (E rfl rfl) (evsC (E rfl rfl) evs0)) (S1 := CB _ _ _ _) (S2 := []) rfl (put35 b A c (bs) [_] (by simp; omega)) ?_
  rintro t23 S23 ⟨rfl, A23, c23, rfl⟩
  refine AWL.y rfl rfl (B rfl) (Yv.assign rfl (E rfl rfl)) ?_
  refine AWL.nil ?_
  refine AW.ret (retI (.tmp rfl .nil) ?_)
  exact ⟨rfl, _, _, (by rw [rex_or p q hp hq, show rexN false p q = 64 + p / 8 * 4 + q / 8 from Int.add_zero _]; rfl)⟩

set_option maxHeartbeats 400000 in
theorem two36 (b : Nat) (A : Option Addr) (c : List UInt8) (bs : List UInt8) (p q : Int) (hp : 0 ≤ p ∧ p ≤ 15 := by first | assumption | decide | exact opF_range _) (hq : 0 ≤ q ∧ q ≤ 15 := by first | assumption | decide | exact opF_range _) (hb : bs.length + 20 ≤ 990 := by simp [putF, immF, leBytes_length] <;> omega) :
    ACalls Tryd.prog 29 [.v (cp b), .v (.int .i64 p), .v (.int .i64 q)] (CB b A c bs) (fun t_ S => t_ = .v (cp b) ∧ ∃ A' c', S = CB b A' c' (bs ++ [byteOf (twoN p q)])) := by
  refine ACalls.intro Tryd.func29 rfl Tryd.ntmps29 (Nat.le_of_ble_eq_true rfl) rfl fun X w0 => ?_
  refine AW.rseq ?_
  refine AWL.y rfl rfl (B rfl) (Yv.assign rfl (E rfl rfl)) ?_
  refine AWL.nil ?_
  refine AW.rseq ?_
  refine AWL.y rfl rfl (B rfl) (Yv.move rfl (E rfl rfl)) ?_
  refine AWL.y rfl rfl (B rfl) (Yv.move rfl (E rfl rfl)) ?_
  refine AWL.y rfl rfl (B rfl) (Yv.andN_i64 3 8 (by decide) (by decide) (by decide) rfl (E rfl rfl) (E rfl rfl) (fun hg => ⟨by omega, by omega⟩)) ?_
  refine AWL.y rfl rfl (B rfl) (Yv.shlCN_i64 8 (by decide) (by decide) rfl (E rfl rfl) (E rfl rfl) (fun hg => by omega)) ?_
  refine AWL.y rfl rfl (B rfl) (Yv.bits rfl rfl (E rfl rfl) (E rfl rfl)) ?_
  refine AWL.y rfl rfl (B rfl) (Yv.move rfl (E rfl rfl)) ?_
  refine AWL.y rfl rfl (B rfl) (Yv.andN_i64 3 8 (by decide) (by decide) (by decide) rfl (E rfl rfl) (E rfl rfl) (fun hg => ⟨by omega, by omega⟩)) ?_
  refine AWL.y rfl rfl (B rfl) (Yv.bits rfl rfl (E rfl rfl) (E rfl rfl)) ?_
  refine AWL.buildSlice1 rfl rfl (B rfl) rfl el_43 rfl (evsC (E rfl rfl) evs0) (Nat.le_of_ble_eq_true rfl) rfl rfl ?_
  refine AWL.call rfl rfl (B rfl) rfl ce_28 (E rfl rfl) (evsC (E rfl rfl) (evsC (E rfl rfl) evs0)) (S1 := CB _ _ _ _) (S2 := []) rfl (put35 b A c (bs) [_] (by simp; omega)) ?_
  rintro t16 S16 ⟨rfl, A16, c16, rfl⟩
  refine AWL.y rfl rfl (B rfl) (Yv.assign rfl (E rfl rfl)) ?_
  refine AWL.nil ?_
  refine AW.ret (retI (.tmp rfl .nil) ?_)
  exact ⟨rfl, _, _, (by rw [show ((8 : Nat) : Int) = 8 from rfl, two_or p q]; rfl)⟩

set_option maxHeartbeats 400000 in
theorem imm37 (b : Nat) (A : Option Addr) (c : List UInt8) (bs : List UInt8) (n : Int) (k : Nat) (hk : k ≤ 8 := by omega) (hb : bs.length + 20 ≤ 990 := by simp [putF, immF, leBytes_length] <;> omega) :
    ACalls Tryd.prog 30 [.v (cp b), .v (.int .i64 n), .v (.int .i64 (k : Int))] (CB b A c bs) (fun t_ S => t_ = .v (cp b) ∧ ∃ A' c', S = CB b A' c' (bs ++ immF n k)) := by
  refine ACalls.intro Tryd.func30 rfl Tryd.ntmps30 (Nat.le_of_ble_eq_true rfl) rfl fun X w0 => ?_
  refine AW.rseq ?_
  refine AWL.y rfl rfl (B rfl) (Yv.assign rfl (E rfl rfl)) ?_
  refine AWL.nil ?_
  refine AW.seq ?_
  refine AW.rseq ?_
  refine AWL.y rfl rfl (B rfl) (Yv.move rfl (E rfl rfl)) ?_
  refine AWL.y rfl rfl (B rfl) (Yv.move rfl (E rfl rfl)) ?_
  refine AWL.nil ?_
  refine AW.block ?_
  refine AW.loop3 (fun (j : Nat) (A1 : Option Addr) (c1 : List UInt8) => [(0, true, .v (cp b)), (1, true, .v (.int .i64 (n / 256 ^ j))), (7, true, .v (.int .i64 (k : Int))), (8, true, .v (.int .i64 (j : Int)))]) (fun (j : Nat) (A1 : Option Addr) (c1 : List UInt8) => (CB b A1 c1 (bs ++ immF n j))) (fun (j : Nat) (A1 : Option Addr) (c1 : List UInt8) => j ≤ k) (fun (j : Nat) (A1 : Option Addr) (c1 : List UInt8) => k - j) 0 A c ?_ ?_ ?_ ?_
  · exact Nat.zero_le _
  · exact Sub.cons rfl rfl (Sub.cons rfl (by simp) (Sub.cons rfl rfl (Sub.cons rfl rfl Sub.nil)))
  · simp [immF, leBytes]
  ·
   intro j A1 c1 hinv
   have hlp : (bs ++ immF n j).length = bs.length + j := by simp [immF, leBytes_length]
   refine AW.rseq ?_
   refine AWL.y rfl rfl (B rfl) (Yv.lss rfl (E rfl rfl) (E rfl rfl)) ?_
   refine AWL.nil ?_
   refine AW.seq ?_
   refine AW.cond rfl (fun h0t => ?_) (fun h0f => ?_)
   ·
    try replace h0t := of_decide_eq_true h0t
    refine AW.skip ?_
    refine AW.seq ?_
    refine AW.block ?_
    refine AW.rseq ?_
    refine AWL.y rfl rfl (B rfl) (Yv.move rfl (E rfl rfl)) ?_
    refine AWL.y rfl rfl (B rfl) (Yv.move rfl (E rfl rfl)) ?_
    refine AWL.y rfl rfl (B rfl) (Yv.bits rfl rfl (E rfl rfl) (E rfl rfl)) ?_
    refine AWL.buildSlice1 rfl rfl (B rfl) rfl el_43 rfl (evsC (E rfl rfl) evs0) (Nat.le_of_ble_eq_true rfl) rfl rfl ?_
    refine AWL.call rfl rfl (B rfl) rfl ce_28 (E rfl rfl) (evsC (E rfl rfl) (evsC (E rfl rfl) evs0)) (S1 := CB _ _ _ _) (S2 := []) rfl (put35 b A1 c1 (bs ++ immF n j) [_] (by rw [List.length_cons, List.length_nil]; omega)) ?_
    rintro t14 S14 ⟨rfl, A14, c14, rfl⟩
    refine AWL.nil ?_
    refine AW.region ?_
    refine AWL.y rfl rfl (B rfl) (Yv.move rfl (E rfl rfl)) ?_
    refine AWL.y rfl rfl (B rfl) (Yv.shrC 256 (by decide) (by decide) (by decide) rfl (E rfl rfl) (E rfl rfl)) ?_
    refine AWL.y rfl rfl (B rfl) (Yv.assign rfl (E rfl rfl)) ?_
    refine AWL.nil ?_
    refine AW.region ?_
    refine AWL.y rfl rfl (B rfl) (Yv.addN_i64 rfl (E rfl rfl) (E rfl rfl) (fun hg => by omega)) ?_
    refine AWL.y rfl rfl (B rfl) (Yv.move rfl (E rfl rfl)) ?_
    refine AWL.nil ?_
    refine ⟨j + 1, A14, c14, by omega, by omega, Sub.cons rfl rfl (Sub.cons rfl (by rw [div_succ]) (Sub.cons rfl rfl (Sub.cons rfl (by simp) Sub.nil))), ?_⟩
    rw [immF_succ, ← List.append_assoc, ← byteOf_and]
    rfl
   try replace h0f := of_decide_eq_false h0f
   refine AW.exit ?_
   refine AW.rseq ?_
   refine AWL.y rfl rfl (B rfl) (Yv.move rfl (E rfl rfl)) ?_
   refine AWL.y rfl rfl (B rfl) (Yv.assign rfl (E rfl rfl)) ?_
   refine AWL.nil ?_
   refine AW.ret (retI (.tmp rfl .nil) ?_)
   have hj : j = k := by omega
   subst hj
   exact ⟨rfl, _, _, rfl⟩

set_option maxHeartbeats 400000 in
theorem mem53 (b : Nat) (A : Option Addr) (c : List UInt8) (bs : List UInt8) (p q n : Int) (hp : 0 ≤ p ∧ p ≤ 15 := by first | assumption | decide | exact opF_range _) (hq : 0 ≤ q ∧ q ≤ 15 := by first | assumption | decide | exact opF_range _) (hb : bs.length + 20 ≤ 900 := by simp [putF, immF, leBytes_length] <;> omega) :
    ACalls Tryd.prog 55 [.v (cp b), .v (.int .i64 p), .v (.int .i64 q), .v (.int .i64 n)] (CB b A c bs) (fun t_ S => t_ = .v (cp b) ∧ ∃ A' c', S = CB b A' c' (bs ++ memF p q n)) := by
  refine ACalls.intro Tryd.func55 rfl Tryd.ntmps55 (Nat.le_of_ble_eq_true rfl) rfl fun X w0 => ?_
  refine AW.rseq ?_
  refine AWL.y rfl rfl (B rfl) (Yv.assign rfl (E rfl rfl)) ?_
  refine AWL.nil ?_
  refine AW.rseq ?_
  refine AWL.y rfl rfl (B rfl) (Yv.move rfl (E rfl rfl)) ?_
  refine AWL.y rfl rfl (B rfl) (Yv.move rfl (E rfl rfl)) ?_
  refine AWL.y rfl rfl (B rfl) (Yv.andN_i64 3 8 (by decide) (by decide) (by decide) rfl (E rfl rfl) (E rfl rfl) (fun hg => ⟨by omega, by omega⟩)) ?_
  refine AWL.y rfl rfl (B rfl) (Yv.shlCN_i64 8 (by decide) (by decide) rfl (E rfl rfl) (E rfl rfl) (fun hg => by omega)) ?_
  refine AWL.y rfl rfl (B rfl) (Yv.bits rfl rfl (E rfl rfl) (E rfl rfl)) ?_
  refine AWL.y rfl rfl (B rfl) (Yv.move rfl (E rfl rfl)) ?_
  refine AWL.y rfl rfl (B rfl) (Yv.andN_i64 3 8 (by decide) (by decide) (by decide) rfl (E rfl rfl) (E rfl rfl) (fun hg => ⟨by omega, by omega⟩)) ?_
  refine AWL.y rfl rfl (B rfl) (Yv.bits rfl rfl (E rfl rfl) (E rfl rfl)) ?_
  refine AWL.buildSlice1 rfl rfl (B rfl) rfl el_43 rfl (evsC (E rfl rfl) evs0) (Nat.le_of_ble_eq_true rfl) rfl rfl ?_
  refine AWL.call rfl rfl (B rfl) rfl ce_28 (E rfl rfl) (evsC (E rfl rfl) (evsC (E rfl rfl) evs0)) (S1 := CB _ _ _ _) (S2 := []) rfl (put35 b A c (bs) [_] (by simp; omega)) ?_
  rintro t18 S18 ⟨rfl, A18, c18, rfl⟩
  refine AWL.nil ?_
  have e1 : putF [bitsOf .or .i64 (bitsOf .or .i64 128 (p % ((8 : Nat) : Int) * 8)) (q % ((8 : Nat) : Int))] = [byteOf (memN p q)] := by rw [show ((8 : Nat) : Int) = 8 from rfl, mem_or p q]; rfl
  rw [e1]
  refine AW.seq ?_
  refine AW.rseq ?_
  refine AWL.y rfl rfl (B rfl) (Yv.move rfl (E rfl rfl)) ?_
  refine AWL.y rfl rfl (B rfl) (Yv.andN_i64 3 8 (by decide) (by decide) (by decide) rfl (E rfl rfl) (E rfl rfl) (fun hg => ⟨by omega, by omega⟩)) ?_
  refine AWL.y rfl rfl (B rfl) (Yv.eql rfl (E rfl rfl) (E rfl rfl)) ?_
  refine AWL.nil ?_
  refine AW.cond rfl (fun h0t => ?_) (fun h0f => ?_)
  ·
   try replace h0t := of_decide_eq_true h0t
   replace h0t : q % 8 = 4 := h0t
   refine AW.region ?_
   refine AWL.y rfl rfl (B rfl) (Yv.move rfl (E rfl rfl)) ?_
   refine AWL.buildSlice1 rfl rfl (B rfl) rfl el_43 rfl (evsC (E rfl rfl) evs0) (Nat.le_of_ble_eq_true rfl) rfl rfl ?_
   refine AWL.call rfl rfl (B rfl) rfl ce_28 (E rfl rfl) (evsC (E rfl rfl) (evsC (E rfl rfl) evs0)) (S1 := CB _ _ _ _) (S2 := []) rfl (put35 b _ _ (bs ++ [byteOf (memN p q)]) [_] (by simp; omega)) ?_
   rintro t24 S24 ⟨rfl, A24, c24, rfl⟩
   refine AWL.nil ?_
   refine AW.rseq ?_
   refine AWL.y rfl rfl (B rfl) (Yv.move rfl (E rfl rfl)) ?_
   refine AWL.y rfl rfl (B rfl) (Yv.move rfl (E rfl rfl)) ?_
   refine AWL.call rfl rfl (B rfl) rfl ce_30 (E rfl rfl) (evsC (E rfl rfl) (evsC (E rfl rfl) (evsC (E rfl rfl) evs0))) (S1 := CB _ _ _ _) (S2 := []) rfl (imm37 b _ _ (bs ++ [byteOf (memN p q)] ++ [36]) n 4 (by omega) (by simp; omega)) ?_
   rintro t27 S27 ⟨rfl, A27, c27, rfl⟩
   refine AWL.y rfl rfl (B rfl) (Yv.assign rfl (E rfl rfl)) ?_
   refine AWL.nil ?_
   refine AW.ret (retI (.tmp rfl .nil) ?_)
   exact ⟨rfl, _, _, (by rw [memF, if_pos h0t]; simp [putF]; rfl)⟩
  try replace h0f := of_decide_eq_false h0f
  replace h0f : ¬ q % 8 = 4 := h0f
  refine AW.skip ?_
  refine AW.rseq ?_
  refine AWL.y rfl rfl (B rfl) (Yv.move rfl (E rfl rfl)) ?_
  refine AWL.y rfl rfl (B rfl) (Yv.move rfl (E rfl rfl)) ?_
  refine AWL.call rfl rfl (B rfl) rfl ce_30 (E rfl rfl) (evsC (E rfl rfl) (evsC (E rfl rfl) (evsC (E rfl rfl) evs0))) (S1 := CB _ _ _ _) (S2 := []) rfl (imm37 b _ _ (bs ++ [byteOf (memN p q)]) n 4 (by omega) (by simp; omega)) ?_
  rintro t27 S27 ⟨rfl, A27, c27, rfl⟩
  refine AWL.y rfl rfl (B rfl) (Yv.assign rfl (E rfl rfl)) ?_
  refine AWL.nil ?_
  refine AW.ret (retI (.tmp rfl .nil) ?_)
  exact ⟨rfl, _, _, (by rw [memF, if_neg h0f]; simp; rfl)⟩

end Go.Proofs.YtjndpakhmgapjaaDoor
