/-
  TEXTS JOINED: Wk13, Wk14, Wk15, Wk16, Wk17, Wk18, Wo, Wk19, Wk20, Wk21, Wk22, Aw14, Ow.
-/
import Derived.Test.YtlfklgganokgdaaRows
import Derived.ProofKit
import Derived.OpenShut
import Derived.JoinedCond
import Derived.Carry
import Derived.Deep.Slices
import Derived.Test.YtlfklgganokgdaaLe
set_option linter.unusedSimpArgs false
set_option linter.unusedVariables false
set_option linter.unusedSectionVars false
set_option linter.unnecessarySimpa false
namespace Go.Proofs.Ytlfklgganokgdaa
open Go Go.RowKit
set_option linter.unusedVariables false
set_option linter.unnecessarySimpa false
set_option linter.unusedSimpArgs false

set_option maxHeartbeats 400000 in
theorem holds51 (c : Int) (a b : Wd64) :
    ACalls Try.prog 51 [zi c, zw a, zw b] [] (fun t S => t = bv (holdsF c a b)) := by
  refine ACalls.intro Try.func51 rfl Try.ntmps51 (Nat.le_of_ble_eq_true rfl) rfl fun X w0 => ?_
  refine AW.rseq ?_
  refine Y1 (Yv.assign rfl eV) ?_
  refine nl ?_
  refine AW.seq ?_
  refine AW.rseq ?_
  refine Y1 (Yv.move rfl eV) ?_
  refine nl ?_
  refine AW.block ?_
  refine AW.rseq ?_
  refine Y1 (Yv.eql rfl eV eV) ?_
  refine Y1 (Yv.assign rfl eV) ?_
  refine nl ?_
  refine AW.cond rfl (fun h0t => ?_) (fun h0f => ?_)
  ·
    try replace h0t := of_decide_eq_true h0t
    refine AW.rseq ?_
    refine Y1 (Yv.move rfl eV) ?_
    refine Y1 (Yv.move rfl eV) ?_
    refine Y1 (Yv.eqlW rfl (E rfl rfl) (E rfl rfl)) ?_
    refine Y1 (Yv.assign rfl eV) ?_
    refine nl ?_
    refine AW.ret (retI (.tmp rfl .nil) ?_)
    rw [holdsF, if_pos (by omega)]
    rfl
  ·
    try replace h0f := of_decide_eq_false h0f
    refine AW.rseq ?_
    refine Y1 (Yv.eql rfl eV eV) ?_
    refine Y1 (Yv.assign rfl eV) ?_
    refine nl ?_
    refine AW.cond rfl (fun h1t => ?_) (fun h1f => ?_)
    ·
      try replace h1t := of_decide_eq_true h1t
      refine AW.rseq ?_
      refine Y1 (Yv.move rfl eV) ?_
      refine Y1 (Yv.move rfl eV) ?_
      refine Y1 (Yv.neqW rfl (E rfl rfl) (E rfl rfl)) ?_
      refine Y1 (Yv.assign rfl eV) ?_
      refine nl ?_
      refine AW.ret (retI (.tmp rfl .nil) ?_)
      rw [holdsF, if_neg (by omega), if_pos (by omega)]
      rfl
    ·
      try replace h1f := of_decide_eq_false h1f
      refine AW.rseq ?_
      refine Y1 (Yv.eql rfl eV eV) ?_
      refine Y1 (Yv.assign rfl eV) ?_
      refine nl ?_
      refine AW.cond rfl (fun h2t => ?_) (fun h2f => ?_)
      ·
        try replace h2t := of_decide_eq_true h2t
        refine AW.rseq ?_
        refine Y1 (Yv.move rfl eV) ?_
        refine Y1 (Yv.conv rfl Try.underlying39 kd_2 (E rfl rfl)) ?_
        refine Y1 (Yv.move rfl eV) ?_
        refine Y1 (Yv.conv rfl Try.underlying39 kd_2 (E rfl rfl)) ?_
        refine Y1 (Yv.lss rfl eV eV) ?_
        refine Y1 (Yv.assign rfl eV) ?_
        refine nl ?_
        refine AW.ret (retI (.tmp rfl .nil) ?_)
        rw [holdsF, if_neg (by omega), if_neg (by omega), if_pos (by omega)]
        rfl
      ·
        try replace h2f := of_decide_eq_false h2f
        refine AW.rseq ?_
        refine Y1 (Yv.eql rfl eV eV) ?_
        refine Y1 (Yv.assign rfl eV) ?_
        refine nl ?_
        refine AW.cond rfl (fun h3t => ?_) (fun h3f => ?_)
        ·
          try replace h3t := of_decide_eq_true h3t
          refine AW.rseq ?_
          refine Y1 (Yv.move rfl eV) ?_
          refine Y1 (Yv.conv rfl Try.underlying39 kd_2 (E rfl rfl)) ?_
          refine Y1 (Yv.move rfl eV) ?_
          refine Y1 (Yv.conv rfl Try.underlying39 kd_2 (E rfl rfl)) ?_
          refine Y1 (Yv.leq rfl eV eV) ?_
          refine Y1 (Yv.assign rfl eV) ?_
          refine nl ?_
          refine AW.ret (retI (.tmp rfl .nil) ?_)
          rw [holdsF, if_neg (by omega), if_neg (by omega), if_neg (by omega), if_pos (by omega)]
          rfl
        ·
          try replace h3f := of_decide_eq_false h3f
          refine AW.rseq ?_
          refine Y1 (Yv.eql rfl eV eV) ?_
          refine Y1 (Yv.assign rfl eV) ?_
          refine nl ?_
          refine AW.cond rfl (fun h4t => ?_) (fun h4f => ?_)
          ·
            try replace h4t := of_decide_eq_true h4t
            refine AW.rseq ?_
            refine Y1 (Yv.move rfl eV) ?_
            refine Y1 (Yv.move rfl eV) ?_
            refine Y1 (Yv.lssW rfl (E rfl rfl) (E rfl rfl)) ?_
            refine Y1 (Yv.assign rfl eV) ?_
            refine nl ?_
            refine AW.ret (retI (.tmp rfl .nil) ?_)
            rw [holdsF, if_neg (by omega), if_neg (by omega), if_neg (by omega), if_neg (by omega), if_pos (by omega)]
            rfl
          ·
            try replace h4f := of_decide_eq_false h4f
            refine AW.skip ?_
            refine AW.rseq ?_
            refine Y1 (Yv.move rfl eV) ?_
            refine Y1 (Yv.move rfl eV) ?_
            refine Y1 (Yv.leqW rfl (E rfl rfl) (E rfl rfl)) ?_
            refine Y1 (Yv.assign rfl eV) ?_
            refine nl ?_
            refine AW.ret (retI (.tmp rfl .nil) ?_)
            rw [holdsF, if_neg (by omega), if_neg (by omega), if_neg (by omega), if_neg (by omega), if_neg (by omega)]
            rfl

set_option maxHeartbeats 400000 in
theorem truth71 (b : Bool) :
    ACalls Try.prog 71 [bv b] [] (fun t S => t = zw (truthF b)) := by
  refine ACalls.intro Try.func71 rfl Try.ntmps71 (Nat.le_of_ble_eq_true rfl) rfl fun X w0 => ?_
  refine AW.rseq ?_
  refine Y1 (Yv.assign rfl eV) ?_
  refine nl ?_
  refine AW.seq ?_
  refine AW.rseq ?_
  refine Y1 (Yv.move rfl eV) ?_
  refine nl ?_
  refine AW.cond rfl (fun h0t => ?_) (fun h0f => ?_)
  ·
    try replace h0t := of_decide_eq_true h0t
    refine AW.rseq ?_
    refine Y1 (Yv.assign rfl eV) ?_
    refine nl ?_
    refine AW.ret (retI (.tmp rfl .nil) ?_)
    rw [truthF, if_pos h0t]; rfl
  ·
    try replace h0f := of_decide_eq_false h0f
    refine AW.skip ?_
    refine AW.rseq ?_
    refine Y1 (Yv.assign rfl eV) ?_
    refine nl ?_
    refine AW.ret (retI (.tmp rfl .nil) ?_)
    rw [truthF, if_neg (by rw [h0f]; decide)]; rfl

set_option maxHeartbeats 400000 in
theorem mul70 (a b : Wd64) :
    ACalls Try.prog 70 [zw a, zw b] [] (fun t S => t = .tup [zw (hiF a b), zw (a * b)]) := by
  refine ACalls.intro Try.func70 rfl Try.ntmps70 (Nat.le_of_ble_eq_true rfl) rfl fun X w0 => ?_
  refine AW.rseq ?_
  refine Y1 (Yv.assign rfl eV) ?_
  refine Y1 (Yv.assign rfl eV) ?_
  refine nl ?_
  refine AW.rseq ?_
  refine Y1 (Yv.move rfl eV) ?_
  refine Y1 (Yv.andW (b := 4294967295#64) rfl (E rfl rfl) (E rfl rfl)) ?_
  refine Y1 (Yv.assign rfl eV) ?_
  refine nl ?_
  refine AW.rseq ?_
  refine Y1 (Yv.move rfl eV) ?_
  refine Y1 (Yv.shrW (n := 32) rfl (E rfl rfl) (E rfl rfl) (by decide)) ?_
  refine Y1 (Yv.assign rfl eV) ?_
  refine nl ?_
  refine AW.rseq ?_
  refine Y1 (Yv.move rfl eV) ?_
  refine Y1 (Yv.andW (b := 4294967295#64) rfl (E rfl rfl) (E rfl rfl)) ?_
  refine Y1 (Yv.assign rfl eV) ?_
  refine nl ?_
  refine AW.rseq ?_
  refine Y1 (Yv.move rfl eV) ?_
  refine Y1 (Yv.shrW (n := 32) rfl (E rfl rfl) (E rfl rfl) (by decide)) ?_
  refine Y1 (Yv.assign rfl eV) ?_
  refine nl ?_
  refine AW.rseq ?_
  refine Y1 (Yv.move rfl eV) ?_
  refine Y1 (Yv.move rfl eV) ?_
  refine Y1 (Yv.mulW rfl (E rfl rfl) (E rfl rfl)) ?_
  refine Y1 (Yv.assign rfl eV) ?_
  refine nl ?_
  refine AW.rseq ?_
  refine Y1 (Yv.move rfl eV) ?_
  refine Y1 (Yv.move rfl eV) ?_
  refine Y1 (Yv.mulW rfl (E rfl rfl) (E rfl rfl)) ?_
  refine Y1 (Yv.move rfl eV) ?_
  refine Y1 (Yv.shrW (n := 32) rfl (E rfl rfl) (E rfl rfl) (by decide)) ?_
  refine Y1 (Yv.addW rfl (E rfl rfl) (E rfl rfl)) ?_
  refine Y1 (Yv.assign rfl eV) ?_
  refine nl ?_
  refine AW.rseq ?_
  refine Y1 (Yv.move rfl eV) ?_
  refine Y1 (Yv.andW (b := 4294967295#64) rfl (E rfl rfl) (E rfl rfl)) ?_
  refine Y1 (Yv.assign rfl eV) ?_
  refine nl ?_
  refine AW.rseq ?_
  refine Y1 (Yv.move rfl eV) ?_
  refine Y1 (Yv.shrW (n := 32) rfl (E rfl rfl) (E rfl rfl) (by decide)) ?_
  refine Y1 (Yv.assign rfl eV) ?_
  refine nl ?_
  refine AW.rseq ?_
  refine Y1 (Yv.move rfl eV) ?_
  refine Y1 (Yv.move rfl eV) ?_
  refine Y1 (Yv.move rfl eV) ?_
  refine Y1 (Yv.mulW rfl (E rfl rfl) (E rfl rfl)) ?_
  refine Y1 (Yv.addW rfl (E rfl rfl) (E rfl rfl)) ?_
  refine Y1 (Yv.assign rfl eV) ?_
  refine nl ?_
  refine AW.rseq ?_
  refine Y1 (Yv.move rfl eV) ?_
  refine Y1 (Yv.move rfl eV) ?_
  refine Y1 (Yv.mulW rfl (E rfl rfl) (E rfl rfl)) ?_
  refine Y1 (Yv.move rfl eV) ?_
  refine Y1 (Yv.addW rfl (E rfl rfl) (E rfl rfl)) ?_
  refine Y1 (Yv.move rfl eV) ?_
  refine Y1 (Yv.shrW (n := 32) rfl (E rfl rfl) (E rfl rfl) (by decide)) ?_
  refine Y1 (Yv.addW rfl (E rfl rfl) (E rfl rfl)) ?_
  refine Y1 (Yv.assign rfl eV) ?_
  refine nl ?_
  refine AW.rseq ?_
  refine Y1 (Yv.move rfl eV) ?_
  refine Y1 (Yv.move rfl eV) ?_
  refine Y1 (Yv.mulW rfl (E rfl rfl) (E rfl rfl)) ?_
  refine Y1 (Yv.assign rfl eV) ?_
  refine nl ?_
  refine AW.ret (retI (.tmp rfl (.tmp rfl .nil)) ?_)
  rfl

set_option maxHeartbeats 16000000 in
theorem value56_ (R : Int → Wd64 → Wd64 → Wd64) (s g n c : Nat) (ps : PS) (pre : List T) (x : Fr) (a : FA) (i : Ins) (hx : FrOk x) (hk : valK i.kind) (ha : (hasF i.kind).a = true → 0 ≤ i.a ∧ i.a < (x.nr : Int)) (hb : (hasF i.kind).b = true → 0 ≤ i.b ∧ i.b < (x.nr : Int)) (hs : i.kind = 31 → 0 ≤ i.imm ∧ i.imm < (x.ns : Int)) (hR : i.kind = 16 → ACalls Try.prog 72 [zi i.real, zw (rA x i.a), zw (rA x i.b)] [] (fun t S => t = zw (R i.real (rA x i.a) (rA x i.b)))) :
    ACalls Try.prog 56 [.v (.pointer (some ⟨s, 0, none⟩)), .ep (.slice (some ⟨g, 0, none⟩) n c) pre.length, .agg (insCells i)] ([Ent.box s 80 (psC ps (.v (.slice (some ⟨g, 0, none⟩) n c))), Ent.row (some ⟨g, 0, none⟩) n c 87 7 (pre ++ frC x a)] ++ frR x a) (fun t S => t = .tup [zw (valueF R ps.heap x i).1, bv (valueF R ps.heap x i).2] ∧ ([Ent.box s 80 (psC ps (.v (.slice (some ⟨g, 0, none⟩) n c))), Ent.row (some ⟨g, 0, none⟩) n c 87 7 (pre ++ frC x a)] ++ frR x a).Sublist S) := by
  have hl1 := hx.r
  have hl2 := hx.s
  have hl3 := hx.t
  have hl4 := hx.h
  unfold valK at hk
  refine ACalls.intro Try.func56 rfl Try.ntmps56 (Nat.le_of_ble_eq_true rfl) rfl fun X w0 => ?_
  refine AW.rseq ?_
  refine AWL.boxOp rfl rfl (B rfl) rfl (E rfl rfl) rfl (fun b5 => ?_)
  refine Y1 (Yv.assign rfl eV) ?_
  refine Y1 (Yv.assign rfl eV) ?_
  refine nl ?_
  refine AW.seq ?_
  refine AW.rseq ?_
  refine Y1 (Yv.fieldBox rfl fo_58_0 eV) ?_
  refine Y1 (Yv.loadBox rfl ag_3 (i := 6) rfl (E rfl rfl) rfl) ?_
  refine nl ?_
  refine AW.block ?_
  refine AW.rseq ?_
  refine Y1 (Yv.eql rfl eV eV) ?_
  refine Y1 (Yv.assign rfl eV) ?_
  refine nl ?_
  refine AW.cond rfl (fun h0t => ?_) (fun h0f => ?_)
  ·
    try replace h0t := of_decide_eq_true h0t
    refine AW.rseq ?_
    refine Y1 (Yv.fieldBox rfl fo_58_9 eV) ?_
    refine Y1 (Yv.loadBox rfl ag_2 (i := 6) rfl (E rfl rfl) rfl) ?_
    refine Y1 (Yv.convW rfl Try.underlying2 kd_39 (E rfl rfl)) ?_
    refine Y1 (Yv.assign rfl eV) ?_
    refine Y1 (Yv.assign rfl eV) ?_
    refine nl ?_
    refine AW.ret (retI (.tmp rfl (.tmp rfl .nil)) ?_)
    rw [valueF, if_pos (by omega)]
    exact ⟨rfl, List.sublist_append_left _ _⟩
  ·
    try replace h0f := of_decide_eq_false h0f
    refine AW.rseq ?_
    refine Y1 (Yv.eql rfl eV eV) ?_
    refine Y1 (Yv.assign rfl eV) ?_
    refine nl ?_
    refine AW.cond rfl (fun h1t => ?_) (fun h1f => ?_)
    ·
      try replace h1t := of_decide_eq_true h1t
      refine AW.rseq ?_
      refine Y1 (Yv.fieldBox rfl fo_58_9 eV) ?_
      refine Y1 (Yv.loadBox rfl ag_2 (i := 6) rfl (E rfl rfl) rfl) ?_
      refine Y1 (Yv.convW rfl Try.underlying2 kd_39 (E rfl rfl)) ?_
      refine Y1 (Yv.addW (a := 268435456#64) rfl (E rfl rfl) (E rfl rfl)) ?_
      refine Y1 (Yv.assign rfl eV) ?_
      refine Y1 (Yv.assign rfl eV) ?_
      refine nl ?_
      refine AW.ret (retI (.tmp rfl (.tmp rfl .nil)) ?_)
      rw [valueF, if_neg (by omega), if_pos (by omega)]
      exact ⟨rfl, List.sublist_append_left _ _⟩
    ·
      try replace h1f := of_decide_eq_false h1f
      refine AW.rseq ?_
      refine Y1 (Yv.eql rfl eV eV) ?_
      refine Y1 (Yv.assign rfl eV) ?_
      refine nl ?_
      refine AW.cond rfl (fun h2t => ?_) (fun h2f => ?_)
      ·
        try replace h2t := of_decide_eq_true h2t
        refine AW.rseq ?_
        refine Y1 (Yv.fieldBox rfl fo_58_5 eV) ?_
        refine Y1 (Yv.loadBox rfl ag_3 (i := 6) rfl (E rfl rfl) rfl) ?_
        refine Y1 (Yv.convW rfl Try.underlying3 kd_39 (E rfl rfl)) ?_
        refine Y1 (Yv.mulW (a := 16#64) rfl (E rfl rfl) (E rfl rfl)) ?_
        refine Y1 (Yv.addW (a := 4194304#64) rfl (E rfl rfl) (E rfl rfl)) ?_
        refine Y1 (Yv.assign rfl eV) ?_
        refine Y1 (Yv.assign rfl eV) ?_
        refine nl ?_
        refine AW.ret (retI (.tmp rfl (.tmp rfl .nil)) ?_)
        rw [valueF, if_neg (by omega), if_neg (by omega), if_pos (by omega)]
        exact ⟨rfl, List.sublist_append_left _ _⟩
      ·
        try replace h2f := of_decide_eq_false h2f
        refine AW.rseq ?_
        refine Y1 (Yv.eql rfl eV eV) ?_
        refine Y1 (Yv.assign rfl eV) ?_
        refine nl ?_
        refine AW.cond rfl (fun h3t => ?_) (fun h3f => ?_)
        ·
          try replace h3t := of_decide_eq_true h3t
          refine AW.rseq ?_
          refine Y1 (Yv.move rfl eV) ?_
          refine Y1 (Yv.nilChk rfl eV) ?_
          refine Y1 (Yv.fieldBox rfl fo_80_2 eV) ?_
          refine Y1 (Yv.loadBox rfl ag_39 (i := 0) rfl (E rfl rfl) rfl) ?_
          refine Y1 (Yv.assign rfl eV) ?_
          refine Y1 (Yv.assign rfl eV) ?_
          refine nl ?_
          refine AW.ret (retI (.tmp rfl (.tmp rfl .nil)) ?_)
          rw [valueF, if_neg (by omega), if_neg (by omega), if_neg (by omega), if_pos (by omega)]
          exact ⟨rfl, List.sublist_append_left _ _⟩
        ·
          try replace h3f := of_decide_eq_false h3f
          refine AW.rseq ?_
          refine Y1 (Yv.eql rfl eV eV) ?_
          refine Y1 (Yv.assign rfl eV) ?_
          refine nl ?_
          refine AW.cond rfl (fun h4t => ?_) (fun h4f => ?_)
          ·
            try replace h4t := of_decide_eq_true h4t
            obtain ⟨hs0, hs1⟩ := hs (by omega)
            refine AW.rseqQ rfl (by kernel_rfl) ?_
            refine AWQ.y rfl rfl (B rfl) (Yv.move rfl (E rfl rfl)) ?_
            refine AWQ.y rfl rfl (B rfl) (Yv.nilChkEp rfl (E rfl rfl)) ?_
            refine AWQ.y rfl rfl (B rfl) (Yv.fieldEp rfl fo_87_3 (E rfl rfl)) ?_
            refine AWQ.y rfl rfl (B rfl) (Yv.loadEp rfl ag_84 (i := 1) rfl (E rfl rfl) (fun hg => fr3)) ?_
            refine AWQ.y rfl rfl (B rfl) (Yv.fieldBox rfl fo_58_9 (E rfl rfl)) ?_
            refine AWQ.y rfl rfl (B rfl) (Yv.loadBox rfl ag_2 (i := 6) rfl (E rfl rfl) rfl) ?_
            refine AWQ.y rfl rfl (B rfl) (Yv.indexRow (j := i.imm.toNat) rfl ss_84 (i := 3) rfl (E rfl rfl) (E rfl rfl) (fun hg => ⟨(Int.toNat_of_nonneg (by omega)).symm, by omega⟩)) ?_
            refine AWQ.y rfl rfl (B rfl) (Yv.loadEp rfl ag_39 (i := 3) rfl (E rfl rfl) (fun hg => word_at (by omega))) ?_
            refine AWQ.y rfl rfl (B rfl) (Yv.move rfl (E rfl rfl)) ?_
            refine AWQ.y rfl rfl (B rfl) (Yv.nilChkEp rfl (E rfl rfl)) ?_
            refine AWQ.y rfl rfl (B rfl) (Yv.fieldEp rfl fo_87_5 (E rfl rfl)) ?_
            refine AWQ.y rfl rfl (B rfl) (Yv.loadEp rfl ag_85 (i := 1) rfl (E rfl rfl) (fun hg => fr5)) ?_
            refine AWQ.y rfl rfl (B rfl) (Yv.fieldBox rfl fo_58_9 (E rfl rfl)) ?_
            refine AWQ.y rfl rfl (B rfl) (Yv.loadBox rfl ag_2 (i := 6) rfl (E rfl rfl) rfl) ?_
            refine AWQ.y rfl rfl (B rfl) (Yv.indexRow (j := i.imm.toNat) rfl ss_85 (i := 5) rfl (E rfl rfl) (E rfl rfl) (fun hg => ⟨(Int.toNat_of_nonneg (by omega)).symm, by omega⟩)) ?_
            refine AWQ.y rfl rfl (B rfl) (Yv.loadEp rfl ag_4 (i := 5) rfl (E rfl rfl) (fun hg => bool_at (by omega))) ?_
            refine AWQ.y rfl rfl (B rfl) (Yv.assign rfl (E rfl rfl)) ?_
            refine AWQ.y rfl rfl (B rfl) (Yv.assign rfl (E rfl rfl)) ?_
            refine AWQ.nil ?_
            refine AW.ret (retI (.tmp rfl (.tmp rfl .nil)) ?_)
            rw [valueF, if_neg (by omega), if_neg (by omega), if_neg (by omega), if_neg (by omega), if_pos (by omega)]
            exact ⟨rfl, List.sublist_append_left _ _⟩
          ·
            try replace h4f := of_decide_eq_false h4f
            refine AW.rseq ?_
            refine Y1 (Yv.eql rfl eV eV) ?_
            refine Y1 (Yv.assign rfl eV) ?_
            refine nl ?_
            refine AW.cond rfl (fun h5t => ?_) (fun h5f => ?_)
            ·
              try replace h5t := of_decide_eq_true h5t
              obtain ⟨ha0, ha1⟩ := ha (by rw [show i.kind = 2 by omega]; rfl)
              refine AW.rseqQ rfl (by kernel_rfl) ?_
              refine AWQ.y rfl rfl (B rfl) (Yv.move rfl (E rfl rfl)) ?_
              refine AWQ.y rfl rfl (B rfl) (Yv.nilChkEp rfl (E rfl rfl)) ?_
              refine AWQ.y rfl rfl (B rfl) (Yv.fieldEp rfl fo_87_2 (E rfl rfl)) ?_
              refine AWQ.y rfl rfl (B rfl) (Yv.loadEp rfl ag_84 (i := 1) rfl (E rfl rfl) (fun hg => fr2)) ?_
              refine AWQ.y rfl rfl (B rfl) (Yv.fieldBox rfl fo_58_2 (E rfl rfl)) ?_
              refine AWQ.y rfl rfl (B rfl) (Yv.loadBox rfl ag_3 (i := 6) rfl (E rfl rfl) rfl) ?_
              refine AWQ.y rfl rfl (B rfl) (Yv.indexRow (j := i.a.toNat) rfl ss_84 (i := 2) rfl (E rfl rfl) (E rfl rfl) (fun hg => ⟨(Int.toNat_of_nonneg (by omega)).symm, by omega⟩)) ?_
              refine AWQ.y rfl rfl (B rfl) (Yv.loadEp rfl ag_39 (i := 2) rfl (E rfl rfl) (fun hg => word_at (by omega))) ?_
              refine AWQ.y rfl rfl (B rfl) (Yv.assign rfl (E rfl rfl)) ?_
              refine AWQ.y rfl rfl (B rfl) (Yv.assign rfl (E rfl rfl)) ?_
              refine AWQ.nil ?_
              refine AW.ret (retI (.tmp rfl (.tmp rfl .nil)) ?_)
              rw [valueF, if_neg (by omega), if_neg (by omega), if_neg (by omega), if_neg (by omega), if_neg (by omega), if_pos (by omega)]
              exact ⟨rfl, List.sublist_append_left _ _⟩
            ·
              try replace h5f := of_decide_eq_false h5f
              refine AW.skip ?_
              obtain ⟨hka, hkb⟩ := has_ab (k := i.kind) (by omega) (by omega)
              obtain ⟨ha0, ha1⟩ := ha hka
              obtain ⟨hb0, hb1⟩ := hb hkb
              refine AW.rseqQ rfl (by kernel_rfl) ?_
              refine AWQ.y rfl rfl (B rfl) (Yv.move rfl (E rfl rfl)) ?_
              refine AWQ.y rfl rfl (B rfl) (Yv.nilChkEp rfl (E rfl rfl)) ?_
              refine AWQ.y rfl rfl (B rfl) (Yv.fieldEp rfl fo_87_2 (E rfl rfl)) ?_
              refine AWQ.y rfl rfl (B rfl) (Yv.loadEp rfl ag_84 (i := 1) rfl (E rfl rfl) (fun hg => fr2)) ?_
              refine AWQ.y rfl rfl (B rfl) (Yv.fieldBox rfl fo_58_2 (E rfl rfl)) ?_
              refine AWQ.y rfl rfl (B rfl) (Yv.loadBox rfl ag_3 (i := 6) rfl (E rfl rfl) rfl) ?_
              refine AWQ.y rfl rfl (B rfl) (Yv.indexRow (j := i.a.toNat) rfl ss_84 (i := 2) rfl (E rfl rfl) (E rfl rfl) (fun hg => ⟨(Int.toNat_of_nonneg (by omega)).symm, by omega⟩)) ?_
              refine AWQ.y rfl rfl (B rfl) (Yv.loadEp rfl ag_39 (i := 2) rfl (E rfl rfl) (fun hg => word_at (by omega))) ?_
              refine AWQ.y rfl rfl (B rfl) (Yv.move rfl (E rfl rfl)) ?_
              refine AWQ.y rfl rfl (B rfl) (Yv.nilChkEp rfl (E rfl rfl)) ?_
              refine AWQ.y rfl rfl (B rfl) (Yv.fieldEp rfl fo_87_2 (E rfl rfl)) ?_
              refine AWQ.y rfl rfl (B rfl) (Yv.loadEp rfl ag_84 (i := 1) rfl (E rfl rfl) (fun hg => fr2)) ?_
              refine AWQ.y rfl rfl (B rfl) (Yv.fieldBox rfl fo_58_3 (E rfl rfl)) ?_
              refine AWQ.y rfl rfl (B rfl) (Yv.loadBox rfl ag_3 (i := 6) rfl (E rfl rfl) rfl) ?_
              refine AWQ.y rfl rfl (B rfl) (Yv.indexRow (j := i.b.toNat) rfl ss_84 (i := 2) rfl (E rfl rfl) (E rfl rfl) (fun hg => ⟨(Int.toNat_of_nonneg (by omega)).symm, by omega⟩)) ?_
              refine AWQ.y rfl rfl (B rfl) (Yv.loadEp rfl ag_39 (i := 2) rfl (E rfl rfl) (fun hg => word_at (by omega))) ?_
              refine AWQ.y rfl rfl (B rfl) (Yv.assign rfl (E rfl rfl)) ?_
              refine AWQ.y rfl rfl (B rfl) (Yv.assign rfl (E rfl rfl)) ?_
              refine AWQ.nil ?_
              refine AW.seq ?_
              refine AW.rseq ?_
              refine Y1 (Yv.fieldBox rfl fo_58_0 eV) ?_
              refine Y1 (Yv.loadBox rfl ag_3 (i := 6) rfl (E rfl rfl) rfl) ?_
              refine nl ?_
              refine AW.block ?_
              refine AW.rseq ?_
              refine Y1 (Yv.eql rfl eV eV) ?_
              refine Y1 (Yv.assign rfl eV) ?_
              refine nl ?_
              refine AW.cond rfl (fun h6t => ?_) (fun h6f => ?_)
              ·
                try replace h6t := of_decide_eq_true h6t
                refine AW.rseq ?_
                refine Y1 (Yv.move rfl eV) ?_
                refine Y1 (Yv.move rfl eV) ?_
                refine Y1 (Yv.addW rfl (E rfl rfl) (E rfl rfl)) ?_
                refine Y1 (Yv.assign rfl eV) ?_
                refine Y1 (Yv.assign rfl eV) ?_
                refine nl ?_
                refine AW.ret (retI (.tmp rfl (.tmp rfl .nil)) ?_)
                rw [valueF, if_neg (by omega), if_neg (by omega), if_neg (by omega), if_neg (by omega), if_neg (by omega), if_neg (by omega), if_pos (by omega)]
                exact ⟨rfl, List.sublist_append_left _ _⟩
              ·
                try replace h6f := of_decide_eq_false h6f
                refine AW.rseq ?_
                refine Y1 (Yv.eql rfl eV eV) ?_
                refine Y1 (Yv.assign rfl eV) ?_
                refine nl ?_
                refine AW.cond rfl (fun h7t => ?_) (fun h7f => ?_)
                ·
                  try replace h7t := of_decide_eq_true h7t
                  refine AW.rseq ?_
                  refine Y1 (Yv.move rfl eV) ?_
                  refine Y1 (Yv.move rfl eV) ?_
                  refine Y1 (Yv.subW rfl (E rfl rfl) (E rfl rfl)) ?_
                  refine Y1 (Yv.assign rfl eV) ?_
                  refine Y1 (Yv.assign rfl eV) ?_
                  refine nl ?_
                  refine AW.ret (retI (.tmp rfl (.tmp rfl .nil)) ?_)
                  rw [valueF, if_neg (by omega), if_neg (by omega), if_neg (by omega), if_neg (by omega), if_neg (by omega), if_neg (by omega), if_neg (by omega), if_pos (by omega)]
                  exact ⟨rfl, List.sublist_append_left _ _⟩
                ·
                  try replace h7f := of_decide_eq_false h7f
                  refine AW.rseq ?_
                  refine Y1 (Yv.eql rfl eV eV) ?_
                  refine Y1 (Yv.assign rfl eV) ?_
                  refine nl ?_
                  refine AW.cond rfl (fun h8t => ?_) (fun h8f => ?_)
                  ·
                    try replace h8t := of_decide_eq_true h8t
                    refine AW.rseq ?_
                    refine Y1 (Yv.move rfl eV) ?_
                    refine Y1 (Yv.move rfl eV) ?_
                    refine Y1 (Yv.mulW rfl (E rfl rfl) (E rfl rfl)) ?_
                    refine Y1 (Yv.assign rfl eV) ?_
                    refine Y1 (Yv.assign rfl eV) ?_
                    refine nl ?_
                    refine AW.ret (retI (.tmp rfl (.tmp rfl .nil)) ?_)
                    rw [valueF, if_neg (by omega), if_neg (by omega), if_neg (by omega), if_neg (by omega), if_neg (by omega), if_neg (by omega), if_neg (by omega), if_neg (by omega), if_pos (by omega)]
                    exact ⟨rfl, List.sublist_append_left _ _⟩
                  ·
                    try replace h8f := of_decide_eq_false h8f
                    refine AW.rseq ?_
                    refine Y1 (Yv.eql rfl eV eV) ?_
                    refine Y1 (Yv.assign rfl eV) ?_
                    refine nl ?_
                    refine AW.cond rfl (fun h9t => ?_) (fun h9f => ?_)
                    ·
                      try replace h9t := of_decide_eq_true h9t
                      refine AW.rseq ?_
                      refine Y1 (Yv.move rfl eV) ?_
                      refine Y1 (Yv.move rfl eV) ?_
                      refine AWL.callT rfl rfl (B rfl) rfl ce_70 (E rfl rfl) (evsC (E rfl rfl) (evsC (E rfl rfl) evs0)) (mul70 (rA x i.a) (rA x i.b)) ?_
                      rintro t104 S104 rfl
                      refine Y1 (Yv.move rfl eV) ?_
                      refine Y1 (Yv.extract rfl eV rfl) ?_
                      refine Y1 (Yv.extract rfl eV rfl) ?_
                      refine Y1 (Yv.assign rfl eV) ?_
                      refine Y1 (Yv.assign rfl eV) ?_
                      refine nl ?_
                      refine AW.rseq ?_
                      refine Y1 (Yv.move rfl eV) ?_
                      refine Y1 (Yv.assign rfl eV) ?_
                      refine Y1 (Yv.assign rfl eV) ?_
                      refine nl ?_
                      refine AW.ret (retI (.tmp rfl (.tmp rfl .nil)) ?_)
                      rw [valueF, if_neg (by omega), if_neg (by omega), if_neg (by omega), if_neg (by omega), if_neg (by omega), if_neg (by omega), if_neg (by omega), if_neg (by omega), if_neg (by omega), if_pos (by omega)]
                      exact ⟨rfl, List.sublist_append_left _ _⟩
                    ·
                      try replace h9f := of_decide_eq_false h9f
                      refine AW.rseq ?_
                      refine Y1 (Yv.eql rfl eV eV) ?_
                      refine Y1 (Yv.assign rfl eV) ?_
                      refine nl ?_
                      refine AW.cond rfl (fun h10t => ?_) (fun h10f => ?_)
                      ·
                        try replace h10t := of_decide_eq_true h10t
                        refine AW.rseq ?_
                        refine Y1 (Yv.move rfl eV) ?_
                        refine Y1 (Yv.move rfl eV) ?_
                        refine Y1 (Yv.andW rfl (E rfl rfl) (E rfl rfl)) ?_
                        refine Y1 (Yv.assign rfl eV) ?_
                        refine Y1 (Yv.assign rfl eV) ?_
                        refine nl ?_
                        refine AW.ret (retI (.tmp rfl (.tmp rfl .nil)) ?_)
                        rw [valueF, if_neg (by omega), if_neg (by omega), if_neg (by omega), if_neg (by omega), if_neg (by omega), if_neg (by omega), if_neg (by omega), if_neg (by omega), if_neg (by omega), if_neg (by omega), if_pos (by omega)]
                        exact ⟨rfl, List.sublist_append_left _ _⟩
                      ·
                        try replace h10f := of_decide_eq_false h10f
                        refine AW.rseq ?_
                        refine Y1 (Yv.eql rfl eV eV) ?_
                        refine Y1 (Yv.assign rfl eV) ?_
                        refine nl ?_
                        refine AW.cond rfl (fun h11t => ?_) (fun h11f => ?_)
                        ·
                          try replace h11t := of_decide_eq_true h11t
                          refine AW.rseq ?_
                          refine Y1 (Yv.move rfl eV) ?_
                          refine Y1 (Yv.move rfl eV) ?_
                          refine Y1 (Yv.orW rfl (E rfl rfl) (E rfl rfl)) ?_
                          refine Y1 (Yv.assign rfl eV) ?_
                          refine Y1 (Yv.assign rfl eV) ?_
                          refine nl ?_
                          refine AW.ret (retI (.tmp rfl (.tmp rfl .nil)) ?_)
                          rw [valueF, if_neg (by omega), if_neg (by omega), if_neg (by omega), if_neg (by omega), if_neg (by omega), if_neg (by omega), if_neg (by omega), if_neg (by omega), if_neg (by omega), if_neg (by omega), if_neg (by omega), if_pos (by omega)]
                          exact ⟨rfl, List.sublist_append_left _ _⟩
                        ·
                          try replace h11f := of_decide_eq_false h11f
                          refine AW.rseq ?_
                          refine Y1 (Yv.eql rfl eV eV) ?_
                          refine Y1 (Yv.assign rfl eV) ?_
                          refine nl ?_
                          refine AW.cond rfl (fun h12t => ?_) (fun h12f => ?_)
                          ·
                            try replace h12t := of_decide_eq_true h12t
                            refine AW.rseq ?_
                            refine Y1 (Yv.move rfl eV) ?_
                            refine Y1 (Yv.move rfl eV) ?_
                            refine Y1 (Yv.xorW rfl (E rfl rfl) (E rfl rfl)) ?_
                            refine Y1 (Yv.assign rfl eV) ?_
                            refine Y1 (Yv.assign rfl eV) ?_
                            refine nl ?_
                            refine AW.ret (retI (.tmp rfl (.tmp rfl .nil)) ?_)
                            rw [valueF, if_neg (by omega), if_neg (by omega), if_neg (by omega), if_neg (by omega), if_neg (by omega), if_neg (by omega), if_neg (by omega), if_neg (by omega), if_neg (by omega), if_neg (by omega), if_neg (by omega), if_neg (by omega), if_pos (by omega)]
                            exact ⟨rfl, List.sublist_append_left _ _⟩
                          ·
                            try replace h12f := of_decide_eq_false h12f
                            refine AW.rseq ?_
                            refine Y1 (Yv.eql rfl eV eV) ?_
                            refine Y1 (Yv.assign rfl eV) ?_
                            refine nl ?_
                            refine AW.cond rfl (fun h13t => ?_) (fun h13f => ?_)
                            ·
                              try replace h13t := of_decide_eq_true h13t
                              refine AW.rseq ?_
                              refine Y1 (Yv.move rfl eV) ?_
                              refine Y1 (Yv.move rfl eV) ?_
                              refine Y1 (Yv.andW (b := 63#64) rfl (E rfl rfl) (E rfl rfl)) ?_
                              refine Y1 (Yv.shlW rfl (E rfl rfl) (E rfl rfl) (lt63 _)) ?_
                              refine Y1 (Yv.assign rfl eV) ?_
                              refine Y1 (Yv.assign rfl eV) ?_
                              refine nl ?_
                              refine AW.ret (retI (.tmp rfl (.tmp rfl .nil)) ?_)
                              rw [valueF, if_neg (by omega), if_neg (by omega), if_neg (by omega), if_neg (by omega), if_neg (by omega), if_neg (by omega), if_neg (by omega), if_neg (by omega), if_neg (by omega), if_neg (by omega), if_neg (by omega), if_neg (by omega), if_neg (by omega), if_pos (by omega)]
                              exact ⟨rfl, List.sublist_append_left _ _⟩
                            ·
                              try replace h13f := of_decide_eq_false h13f
                              refine AW.rseq ?_
                              refine Y1 (Yv.eql rfl eV eV) ?_
                              refine Y1 (Yv.assign rfl eV) ?_
                              refine nl ?_
                              refine AW.cond rfl (fun h14t => ?_) (fun h14f => ?_)
                              ·
                                try replace h14t := of_decide_eq_true h14t
                                refine AW.rseq ?_
                                refine Y1 (Yv.move rfl eV) ?_
                                refine Y1 (Yv.move rfl eV) ?_
                                refine Y1 (Yv.andW (b := 63#64) rfl (E rfl rfl) (E rfl rfl)) ?_
                                refine Y1 (Yv.shrW rfl (E rfl rfl) (E rfl rfl) (lt63 _)) ?_
                                refine Y1 (Yv.assign rfl eV) ?_
                                refine Y1 (Yv.assign rfl eV) ?_
                                refine nl ?_
                                refine AW.ret (retI (.tmp rfl (.tmp rfl .nil)) ?_)
                                rw [valueF, if_neg (by omega), if_neg (by omega), if_neg (by omega), if_neg (by omega), if_neg (by omega), if_neg (by omega), if_neg (by omega), if_neg (by omega), if_neg (by omega), if_neg (by omega), if_neg (by omega), if_neg (by omega), if_neg (by omega), if_neg (by omega), if_pos (by omega)]
                                exact ⟨rfl, List.sublist_append_left _ _⟩
                              ·
                                try replace h14f := of_decide_eq_false h14f
                                refine AW.rseq ?_
                                refine Y1 (Yv.eql rfl eV eV) ?_
                                refine Y1 (Yv.assign rfl eV) ?_
                                refine nl ?_
                                refine AW.cond rfl (fun h15t => ?_) (fun h15f => ?_)
                                ·
                                  try replace h15t := of_decide_eq_true h15t
                                  refine AW.rseq ?_
                                  refine Y1 (Yv.move rfl eV) ?_
                                  refine Y1 (Yv.conv rfl Try.underlying39 kd_2 (E rfl rfl)) ?_
                                  refine Y1 (Yv.move rfl eV) ?_
                                  refine Y1 (Yv.andW (b := 63#64) rfl (E rfl rfl) (E rfl rfl)) ?_
                                  refine Y1 (Yv.shr (p := sI (rA x i.a)) rfl (E rfl rfl) (E rfl rfl) (fun _ => Int.natCast_nonneg _)) ?_
                                  refine Y1 (Yv.convW rfl Try.underlying2 kd_39 (E rfl rfl)) ?_
                                  refine Y1 (Yv.assign rfl eV) ?_
                                  refine Y1 (Yv.assign rfl eV) ?_
                                  refine nl ?_
                                  refine AW.ret (retI (.tmp rfl (.tmp rfl .nil)) ?_)
                                  rw [valueF, if_neg (by omega), if_neg (by omega), if_neg (by omega), if_neg (by omega), if_neg (by omega), if_neg (by omega), if_neg (by omega), if_neg (by omega), if_neg (by omega), if_neg (by omega), if_neg (by omega), if_neg (by omega), if_neg (by omega), if_neg (by omega), if_neg (by omega), if_pos (by omega)]
                                  exact ⟨rfl, List.sublist_append_left _ _⟩
                                ·
                                  try replace h15f := of_decide_eq_false h15f
                                  refine AW.rseq ?_
                                  refine Y1 (Yv.eql rfl eV eV) ?_
                                  refine Y1 (Yv.assign rfl eV) ?_
                                  refine nl ?_
                                  refine AW.cond rfl (fun h16t => ?_) (fun h16f => ?_)
                                  ·
                                    try replace h16t := of_decide_eq_true h16t
                                    refine AW.rseq ?_
                                    refine Y1 (Yv.fieldBox rfl fo_58_6 eV) ?_
                                    refine Y1 (Yv.loadBox rfl ag_3 (i := 6) rfl (E rfl rfl) rfl) ?_
                                    refine Y1 (Yv.move rfl eV) ?_
                                    refine Y1 (Yv.move rfl eV) ?_
                                    refine AWL.callT rfl rfl (B rfl) rfl ce_51 (E rfl rfl) (evsC (E rfl rfl) (evsC (E rfl rfl) (evsC (E rfl rfl) evs0))) (holds51 i.cond (rA x i.a) (rA x i.b)) ?_
                                    rintro t149 S149 rfl
                                    refine AWL.callT rfl rfl (B rfl) rfl ce_71 (E rfl rfl) (evsC (E rfl rfl) evs0) (truth71 (holdsF i.cond (rA x i.a) (rA x i.b))) ?_
                                    rintro t150 S150 rfl
                                    refine Y1 (Yv.assign rfl eV) ?_
                                    refine Y1 (Yv.assign rfl eV) ?_
                                    refine nl ?_
                                    refine AW.ret (retI (.tmp rfl (.tmp rfl .nil)) ?_)
                                    rw [valueF, if_neg (by omega), if_neg (by omega), if_neg (by omega), if_neg (by omega), if_neg (by omega), if_neg (by omega), if_neg (by omega), if_neg (by omega), if_neg (by omega), if_neg (by omega), if_neg (by omega), if_neg (by omega), if_neg (by omega), if_neg (by omega), if_neg (by omega), if_neg (by omega), if_pos (by omega)]
                                    exact ⟨rfl, List.sublist_append_left _ _⟩
                                  ·
                                    try replace h16f := of_decide_eq_false h16f
                                    refine AW.rseq ?_
                                    refine Y1 (Yv.eql rfl eV eV) ?_
                                    refine Y1 (Yv.assign rfl eV) ?_
                                    refine nl ?_
                                    refine AW.cond rfl (fun h17t => ?_) (fun h17f => ?_)
                                    ·
                                      try replace h17t := of_decide_eq_true h17t
                                      refine AW.rseq ?_
                                      refine Y1 (Yv.fieldBox rfl fo_58_7 eV) ?_
                                      refine Y1 (Yv.loadBox rfl ag_3 (i := 6) rfl (E rfl rfl) rfl) ?_
                                      refine Y1 (Yv.move rfl eV) ?_
                                      refine Y1 (Yv.move rfl eV) ?_
                                      refine AWL.callT rfl rfl (B rfl) rfl ce_72 (E rfl rfl) (evsC (E rfl rfl) (evsC (E rfl rfl) (evsC (E rfl rfl) evs0))) (hR (by omega)) ?_
                                      rintro t157 S157 rfl
                                      refine Y1 (Yv.assign rfl eV) ?_
                                      refine Y1 (Yv.assign rfl eV) ?_
                                      refine nl ?_
                                      refine AW.ret (retI (.tmp rfl (.tmp rfl .nil)) ?_)
                                      rw [valueF, if_neg (by omega), if_neg (by omega), if_neg (by omega), if_neg (by omega), if_neg (by omega), if_neg (by omega), if_neg (by omega), if_neg (by omega), if_neg (by omega), if_neg (by omega), if_neg (by omega), if_neg (by omega), if_neg (by omega), if_neg (by omega), if_neg (by omega), if_neg (by omega), if_neg (by omega), if_pos (by omega)]
                                      exact ⟨rfl, List.sublist_append_left _ _⟩
                                    ·
                                      try replace h17f := of_decide_eq_false h17f
                                      refine AW.skip ?_
                                      refine AW.seq ?_
                                      refine AW.block ?_
                                      refine AW.rseq ?_
                                      refine Y1 (Yv.move rfl eV) ?_
                                      refine Y1 (Yv.eqlW (b := 0#64) rfl (E rfl rfl) (E rfl rfl)) ?_
                                      refine Y1 (Yv.assign rfl eV) ?_
                                      refine nl ?_
                                      refine AW.cond rfl (fun h18t => ?_) (fun h18f => ?_)
                                      ·
                                        try replace h18t := of_decide_eq_true h18t
                                        refine AW.rseq ?_
                                        refine Y1 (Yv.assign rfl eV) ?_
                                        refine Y1 (Yv.assign rfl eV) ?_
                                        refine nl ?_
                                        refine AW.ret (retI (.tmp rfl (.tmp rfl .nil)) ?_)
                                        rw [valueF, if_neg (by omega), if_neg (by omega), if_neg (by omega), if_neg (by omega), if_neg (by omega), if_neg (by omega), if_neg (by omega), if_neg (by omega), if_neg (by omega), if_neg (by omega), if_neg (by omega), if_neg (by omega), if_neg (by omega), if_neg (by omega), if_neg (by omega), if_neg (by omega), if_neg (by omega), if_neg (by omega)]
                                        rw [if_pos (by assumption)]
                                        exact ⟨rfl, List.sublist_append_left _ _⟩
                                      ·
                                        try replace h18f := of_decide_eq_false h18f
                                        refine AW.rseq ?_
                                        refine Y1 (Yv.fieldBox rfl fo_58_0 eV) ?_
                                        refine Y1 (Yv.loadBox rfl ag_3 (i := 6) rfl (E rfl rfl) rfl) ?_
                                        refine Y1 (Yv.eql rfl eV eV) ?_
                                        refine Y1 (Yv.assign rfl eV) ?_
                                        refine nl ?_
                                        refine AW.cond rfl (fun h19t => ?_) (fun h19f => ?_)
                                        ·
                                          try replace h19t := of_decide_eq_true h19t
                                          refine AW.rseq ?_
                                          refine Y1 (Yv.move rfl eV) ?_
                                          refine Y1 (Yv.move rfl eV) ?_
                                          refine Y1 (Yv.quoW rfl (E rfl rfl) (E rfl rfl) (by assumption)) ?_
                                          refine Y1 (Yv.assign rfl eV) ?_
                                          refine Y1 (Yv.assign rfl eV) ?_
                                          refine nl ?_
                                          refine AW.ret (retI (.tmp rfl (.tmp rfl .nil)) ?_)
                                          rw [valueF, if_neg (by omega), if_neg (by omega), if_neg (by omega), if_neg (by omega), if_neg (by omega), if_neg (by omega), if_neg (by omega), if_neg (by omega), if_neg (by omega), if_neg (by omega), if_neg (by omega), if_neg (by omega), if_neg (by omega), if_neg (by omega), if_neg (by omega), if_neg (by omega), if_neg (by omega), if_neg (by omega)]
                                          rw [if_neg (by assumption), if_pos (by omega)]
                                          exact ⟨rfl, List.sublist_append_left _ _⟩
                                        ·
                                          try replace h19f := of_decide_eq_false h19f
                                          refine AW.skip ?_
                                          refine AW.rseq ?_
                                          refine Y1 (Yv.move rfl eV) ?_
                                          refine Y1 (Yv.move rfl eV) ?_
                                          refine Y1 (Yv.remW rfl (E rfl rfl) (E rfl rfl) (by assumption)) ?_
                                          refine Y1 (Yv.assign rfl eV) ?_
                                          refine Y1 (Yv.assign rfl eV) ?_
                                          refine nl ?_
                                          refine AW.ret (retI (.tmp rfl (.tmp rfl .nil)) ?_)
                                          rw [valueF, if_neg (by omega), if_neg (by omega), if_neg (by omega), if_neg (by omega), if_neg (by omega), if_neg (by omega), if_neg (by omega), if_neg (by omega), if_neg (by omega), if_neg (by omega), if_neg (by omega), if_neg (by omega), if_neg (by omega), if_neg (by omega), if_neg (by omega), if_neg (by omega), if_neg (by omega), if_neg (by omega)]
                                          rw [if_neg (by assumption), if_neg (by omega)]
                                          exact ⟨rfl, List.sublist_append_left _ _⟩

theorem value56 (R : Int → Wd64 → Wd64 → Wd64) (s g n c : Nat) (ps : PS) (pre : List T) (x : Fr) (a : FA) (i : Ins) (hx : FrOk x) (hk : valK i.kind) (ha : (hasF i.kind).a = true → 0 ≤ i.a ∧ i.a < (x.nr : Int)) (hb : (hasF i.kind).b = true → 0 ≤ i.b ∧ i.b < (x.nr : Int)) (hs : i.kind = 31 → 0 ≤ i.imm ∧ i.imm < (x.ns : Int)) (hR : i.kind = 16 → ACalls Try.prog 72 [zi i.real, zw (rA x i.a), zw (rA x i.b)] [] (fun t S => t = zw (R i.real (rA x i.a) (rA x i.b)))) : ACalls Try.prog 56 [.v (.pointer (some ⟨s, 0, none⟩)), .ep (.slice (some ⟨g, 0, none⟩) n c) pre.length, .agg (insCells i)] ([Ent.box s 80 (psC ps (.v (.slice (some ⟨g, 0, none⟩) n c))), Ent.row (some ⟨g, 0, none⟩) n c 87 7 (pre ++ frC x a)] ++ frR x a) (fun t S => t = .tup [zw (valueF R ps.heap x i).1, bv (valueF R ps.heap x i).2] ∧ S = [Ent.box s 80 (psC ps (.v (.slice (some ⟨g, 0, none⟩) n c))), Ent.row (some ⟨g, 0, none⟩) n c 87 7 (pre ++ frC x a)] ++ frR x a) :=
  (value56_ R s g n c ps pre x a i hx hk ha hb hs hR).less fun t S' ⟨h1, h2⟩ => ⟨_, h2, h1, rfl⟩
end Go.Proofs.Ytlfklgganokgdaa

namespace Go.Proofs.Ytlfklgganokgdaa
open Go Go.RowKit
set_option linter.unusedVariables false
set_option linter.unnecessarySimpa false
set_option linter.unusedSimpArgs false

set_option maxHeartbeats 2000000 in
theorem do50 (bf bc g n c : Nat) (pre : List T) (x : Fr) (a : FA) (f0 : Bool) (r : Int) (hl : x.set.length = x.nr) (hr : 0 ≤ r ∧ r < (x.nr : Int)) :
    ACalls Try.prog 50 [zi r, .v (.pointer (some ⟨bf, 0, none⟩)), .v (.pointer (some ⟨bc, 0, none⟩))] ([Ent.box bf 4 [bv (f0)], Ent.box bc 83 [.ep (.slice (some ⟨g, 0, none⟩) n c) pre.length], Ent.row (some ⟨g, 0, none⟩) n c 87 7 (pre ++ frC x a), Ent.row a.t x.nr x.nr 4 1 (x.set.map bv)]) (fun t S => t = .tup [] ∧ S = [Ent.box bf 4 [bv (f0 && x.set.getD r.toNat default)], Ent.box bc 83 [.ep (.slice (some ⟨g, 0, none⟩) n c) pre.length], Ent.row (some ⟨g, 0, none⟩) n c 87 7 (pre ++ frC x a), Ent.row a.t x.nr x.nr 4 1 (x.set.map bv)]) := by
  refine ACalls.intro Try.func50 rfl Try.ntmps50 (Nat.le_of_ble_eq_true rfl) rfl fun X w0 => ?_
  refine AW.region ?_
  refine Y1 (Yv.loadBox rfl ag_4 (i := 0) rfl (E rfl rfl) rfl) ?_
  refine Y1 (Yv.move rfl eV) ?_
  refine AWL.ygT rfl rfl rfl rfl (B rfl) (Yv.loadBox rfl ag_83 (i := 1) rfl (E rfl rfl) rfl) ?_
  refine AWL.ygT rfl rfl rfl rfl (B rfl) (Yv.nilChkEp rfl (Eg rfl rfl id)) ?_
  refine AWL.ygT rfl rfl rfl rfl (B rfl) (Yv.fieldEp rfl fo_87_4 (Eg rfl rfl id)) ?_
  refine AWL.ygT rfl rfl rfl rfl (B rfl) (Yv.loadEp rfl ag_85 (i := 2) rfl (Eg rfl rfl id) (fun hg => fr4)) ?_
  refine AWL.ygT rfl rfl rfl rfl (B rfl) (Yv.move rfl (E rfl rfl)) ?_
  refine AWL.ygT rfl rfl rfl rfl (B rfl) (Yv.indexRow (j := r.toNat) rfl ss_85 (i := 3) rfl (Eg rfl rfl id) (Eg rfl rfl id) (fun hg => ⟨(Int.toNat_of_nonneg (by omega)).symm, by omega⟩)) ?_
  refine AWL.ygT rfl rfl rfl rfl (B rfl) (Yv.loadEp rfl ag_4 (i := 3) rfl (Eg rfl rfl id) (fun hg => bool_at (by omega))) ?_
  refine Y1 (Yv.pickAnd rfl (E rfl rfl) (Eg rfl rfl id)) ?_
  refine AWL.storeBox (i := 0) rfl rfl rfl ag_4 rfl (E rfl rfl) (E rfl rfl) rfl rfl (Nat.le_of_ble_eq_true rfl) ?_
  refine nl ?_
  refine retN .nil ?_
  exact ⟨rfl, rfl⟩

theorem rd3_of (i : Ins) : readsF i = rd2 i ++ if (hasF i.kind).args = true then i.args else [] := rfl
theorem rd2_of (i : Ins) : rd2 i = rd1 i ++ if (hasF i.kind).b = true then [i.b] else [] := rfl
set_option maxHeartbeats 4000000 in
theorem reads49_ (bf bc g n c : Nat) (pre : List T) (x : Fr) (a : FA) (f0 : Bool) (i : Ins) (hl : x.set.length = x.nr) (ha : i.args.length ≤ 1048576) (hr : ∀ r ∈ readsF i, 0 ≤ r ∧ r < (x.nr : Int)) :
    ACalls Try.prog 49 [.agg (insCells i), .v (.func (.func 50) #[] #[.pointer (some ⟨bf, 0, none⟩), .pointer (some ⟨bc, 0, none⟩)])] ([Ent.box bf 4 [bv (f0)], Ent.box bc 83 [.ep (.slice (some ⟨g, 0, none⟩) n c) pre.length], Ent.row (some ⟨g, 0, none⟩) n c 87 7 (pre ++ frC x a), Ent.row a.t x.nr x.nr 4 1 (x.set.map bv)]) (fun t S => t = .tup [] ∧ ([Ent.box bf 4 [bv (f0 && okS x.set (readsF i))], Ent.box bc 83 [.ep (.slice (some ⟨g, 0, none⟩) n c) pre.length], Ent.row (some ⟨g, 0, none⟩) n c 87 7 (pre ++ frC x a), Ent.row a.t x.nr x.nr 4 1 (x.set.map bv)]).Sublist S) := by
  refine ACalls.intro Try.func49 rfl Try.ntmps49 (Nat.le_of_ble_eq_true rfl) rfl fun X w0 => ?_
  refine AW.rseq ?_
  refine AWL.boxOp rfl rfl (B rfl) rfl (E rfl rfl) rfl (fun b2 => ?_)
  refine nl ?_
  refine AW.rseq ?_
  refine Y1 (Yv.fieldBox rfl fo_58_0 eV) ?_
  refine Y1 (Yv.loadBox rfl ag_3 (i := 4) rfl (E rfl rfl) rfl) ?_
  refine AWL.callT rfl rfl (B rfl) rfl ce_57 (E rfl rfl) (evsC (E rfl rfl) evs0) (fields57 i.kind) ?_
  rintro t11 S11 rfl
  refine Y1 (Yv.move rfl eV) ?_
  refine Y1 (Yv.extract rfl eV rfl) ?_
  refine Y1 (Yv.extract rfl eV rfl) ?_
  refine AWL.allocOp rfl rfl (B rfl) rfl zc_122 (fun b4 => ?_)
  refine AWL.storeBox (i := 5) rfl rfl rfl ag_122 rfl (E rfl rfl) (E rfl rfl) rfl rfl (Nat.le_of_ble_eq_true rfl) ?_
  refine Y1 (Yv.assign rfl eV) ?_
  refine nl ?_
  refine AW.mid (α := Unit) (fun _ => [(1, true, .v (.func (.func 50) #[] #[.pointer (some ⟨bf, 0, none⟩), .pointer (some ⟨bc, 0, none⟩)])), (2, true, .v (.pointer (some ⟨b2, 0, none⟩))), (4, true, .v (.pointer (some ⟨b4, 0, none⟩)))]) (fun _ => [Ent.box bf 4 [bv (f0 && okS x.set (rd1 i))], Ent.box bc 83 [.ep (.slice (some ⟨g, 0, none⟩) n c) pre.length], Ent.row (some ⟨g, 0, none⟩) n c 87 7 (pre ++ frC x a), Ent.row a.t x.nr x.nr 4 1 (x.set.map bv)] ++ [Ent.box b2 58 (insCells i), Ent.box b4 122 (hasCells (hasF i.kind))]) (fun _ => True) ?_ ?_
  ·
    refine AW.rseq ?_
    refine Y1 (Yv.fieldBox rfl fo_122_1 eV) ?_
    refine Y1 (Yv.loadBox rfl ag_4 (i := 5) rfl (E rfl rfl) rfl) ?_
    refine nl ?_
    refine AW.cond rfl (fun h0t => ?_) (fun h0f => ?_)
    ·
      try replace h0t := of_decide_eq_true h0t
      refine AW.region ?_
      refine Y1 (Yv.move rfl eV) ?_
      refine Y1 (Yv.fieldBox rfl fo_58_2 eV) ?_
      refine Y1 (Yv.loadBox rfl ag_3 (i := 4) rfl (E rfl rfl) rfl) ?_
      refine C1 rfl ce_50 (E rfl rfl) (evsC (E rfl rfl) evs0) (S1 := [Ent.box bf 4 [bv (f0)], Ent.box bc 83 [.ep (.slice (some ⟨g, 0, none⟩) n c) pre.length], Ent.row (some ⟨g, 0, none⟩) n c 87 7 (pre ++ frC x a), Ent.row a.t x.nr x.nr 4 1 (x.set.map bv)]) (S2 := _) rfl (do50 bf bc g n c pre x a (f0) i.a hl (hr _ (by rw [rd3_of, rd2_of, rd1_t h0t]; simp))) ?_
      rintro t19 S19 ⟨rfl, rfl⟩
      refine nl ?_
      refine ⟨(), trivial, (Sub.cons rfl rfl (Sub.cons rfl rfl (Sub.cons rfl rfl Sub.nil))), ?_⟩
      rw [rd1_t h0t, okS_one]
      rfl
    ·
      try replace h0f := of_decide_eq_false h0f
      refine AW.skip ?_
      refine ⟨(), trivial, (Sub.cons rfl rfl (Sub.cons rfl rfl (Sub.cons rfl rfl Sub.nil))), ?_⟩
      rw [rd1_f h0f, okS_nil, Bool.and_true]
      try rfl
  ·
    rintro _ hmid
    refine AW.mid (α := Unit) (fun _ => [(1, true, .v (.func (.func 50) #[] #[.pointer (some ⟨bf, 0, none⟩), .pointer (some ⟨bc, 0, none⟩)])), (2, true, .v (.pointer (some ⟨b2, 0, none⟩))), (4, true, .v (.pointer (some ⟨b4, 0, none⟩)))]) (fun _ => [Ent.box bf 4 [bv (f0 && okS x.set (rd2 i))], Ent.box bc 83 [.ep (.slice (some ⟨g, 0, none⟩) n c) pre.length], Ent.row (some ⟨g, 0, none⟩) n c 87 7 (pre ++ frC x a), Ent.row a.t x.nr x.nr 4 1 (x.set.map bv)] ++ [Ent.box b2 58 (insCells i), Ent.box b4 122 (hasCells (hasF i.kind))]) (fun _ => True) ?_ ?_
    ·
      refine AW.rseq ?_
      refine Y1 (Yv.fieldBox rfl fo_122_2 eV) ?_
      refine Y1 (Yv.loadBox rfl ag_4 (i := 5) rfl (E rfl rfl) rfl) ?_
      refine nl ?_
      refine AW.cond rfl (fun h1t => ?_) (fun h1f => ?_)
      ·
        try replace h1t := of_decide_eq_true h1t
        refine AW.region ?_
        refine Y1 (Yv.move rfl eV) ?_
        refine Y1 (Yv.fieldBox rfl fo_58_3 eV) ?_
        refine Y1 (Yv.loadBox rfl ag_3 (i := 4) rfl (E rfl rfl) rfl) ?_
        refine C1 rfl ce_50 (E rfl rfl) (evsC (E rfl rfl) evs0) (S1 := [Ent.box bf 4 [bv (f0 && okS x.set (rd1 i))], Ent.box bc 83 [.ep (.slice (some ⟨g, 0, none⟩) n c) pre.length], Ent.row (some ⟨g, 0, none⟩) n c 87 7 (pre ++ frC x a), Ent.row a.t x.nr x.nr 4 1 (x.set.map bv)]) (S2 := _) rfl (do50 bf bc g n c pre x a (f0 && okS x.set (rd1 i)) i.b hl (hr _ (by rw [rd3_of, rd2_t h1t]; simp))) ?_
        rintro t25 S25 ⟨rfl, rfl⟩
        refine nl ?_
        refine ⟨(), trivial, (Sub.cons rfl rfl (Sub.cons rfl rfl (Sub.cons rfl rfl Sub.nil))), ?_⟩
        rw [rd2_t h1t, okS_app, okS_one, ← Bool.and_assoc]
        try rfl
      ·
        try replace h1f := of_decide_eq_false h1f
        refine AW.skip ?_
        refine ⟨(), trivial, (Sub.cons rfl rfl (Sub.cons rfl rfl (Sub.cons rfl rfl Sub.nil))), ?_⟩
        rw [rd2_f h1f]
        try rfl
    ·
      rintro _ hmid
      refine AW.rseq ?_
      refine Y1 (Yv.fieldBox rfl fo_122_3 eV) ?_
      refine Y1 (Yv.loadBox rfl ag_4 (i := 5) rfl (E rfl rfl) rfl) ?_
      refine nl ?_
      refine AW.cond rfl (fun h2t => ?_) (fun h2f => ?_)
      ·
        try replace h2t := of_decide_eq_true h2t
        refine AW.rseq ?_
        refine Y1 (Yv.fieldBox rfl fo_58_10 eV) ?_
        refine Y1 (Yv.loadBox rfl ag_47 (i := 4) rfl (E rfl rfl) rfl) ?_
        refine Y1 (Yv.lenSl rfl so_47 (B rfl) (E rfl rfl) len_args) ?_
        refine Y1 (Yv.move rfl eV) ?_
        refine nl ?_
        refine AW.block ?_
        refine AW.loop (fun (j : Nat) => [(1, true, .v (.func (.func 50) #[] #[.pointer (some ⟨bf, 0, none⟩), .pointer (some ⟨bc, 0, none⟩)])), (2, true, .v (.pointer (some ⟨b2, 0, none⟩))), (4, true, .v (.pointer (some ⟨b4, 0, none⟩))), (29, true, .sl 1 (i.args.map zi)), (30, true, .v (.int .i64 (i.args.length : Int))), (31, true, .v (.int .i64 (j : Int)))]) (fun (j : Nat) => ([Ent.box bf 4 [bv (f0 && okS x.set (rd2 i ++ i.args.take (j)))], Ent.box bc 83 [.ep (.slice (some ⟨g, 0, none⟩) n c) pre.length], Ent.row (some ⟨g, 0, none⟩) n c 87 7 (pre ++ frC x a), Ent.row a.t x.nr x.nr 4 1 (x.set.map bv)] ++ [Ent.box b2 58 (insCells i), Ent.box b4 122 (hasCells (hasF i.kind))])) (fun (j : Nat) => j ≤ i.args.length) (fun (j : Nat) => i.args.length - j) 0 ?_ ?_ ?_ ?_
        · exact Nat.zero_le _
        · exact (Sub.cons rfl rfl (Sub.cons rfl rfl (Sub.cons rfl rfl (Sub.cons rfl rfl (Sub.cons rfl rfl (Sub.cons rfl rfl Sub.nil))))))
        · rw [List.take_zero, List.append_nil]
        ·
          intro j hinv
          refine AW.rseq ?_
          refine Y1 (Yv.lss rfl eV eV) ?_
          refine nl ?_
          refine AW.seq ?_
          refine AW.cond rfl (fun h3t => ?_) (fun h3f => ?_)
          ·
            try replace h3t := of_decide_eq_true h3t
            refine AW.skip ?_
            refine AW.seq ?_
            refine AW.block ?_
            refine AW.rseq ?_
            refine Y1 (Yv.indexSl rfl ss_47 (B rfl) (E rfl rfl) (E rfl rfl) (fun hg => ⟨rfl, (by first | omega | (simp only [len_code, len_funs, len_args, len_data, len_zw]; omega))⟩)) ?_
            refine Y1 (Yv.loadRp rfl ag_3 (E rfl rfl) (fun hg => arg_at (by omega))) ?_
            refine Y1 (Yv.assign rfl eV) ?_
            refine nl ?_
            refine AW.region ?_
            refine Y1 (Yv.move rfl eV) ?_
            refine Y1 (Yv.move rfl eV) ?_
            refine C1 rfl ce_50 (E rfl rfl) (evsC (E rfl rfl) evs0) (S1 := [Ent.box bf 4 [bv (f0 && okS x.set (rd2 i ++ i.args.take (j)))], Ent.box bc 83 [.ep (.slice (some ⟨g, 0, none⟩) n c) pre.length], Ent.row (some ⟨g, 0, none⟩) n c 87 7 (pre ++ frC x a), Ent.row a.t x.nr x.nr 4 1 (x.set.map bv)]) (S2 := _) rfl (do50 bf bc g n c pre x a (f0 && okS x.set (rd2 i ++ i.args.take (j))) (i.args.getD j default) hl (hr _ (by rw [rd3_t h2t]; exact List.mem_append_right _ (getD_mem (l := i.args) (j := j) (by omega))))) ?_
            rintro t37 S37 ⟨rfl, rfl⟩
            refine nl ?_
            refine AW.region ?_
            refine Y1 (Yv.addN_i64 rfl (E rfl rfl) (E rfl rfl) (fun hg => by omega)) ?_
            refine Y1 (Yv.move rfl eV) ?_
            refine nl ?_
            refine ⟨j + 1, by omega, by omega, (Sub.cons rfl rfl (Sub.cons rfl rfl (Sub.cons rfl rfl (Sub.cons rfl rfl (Sub.cons rfl rfl (Sub.cons rfl (by simp) Sub.nil)))))), ?_⟩
            rw [take_gd (show j < i.args.length by omega), ← List.append_assoc, okS_app x.set (rd2 i ++ i.args.take j) [i.args.getD j default], okS_one, ← Bool.and_assoc]
            try rfl
          ·
            try replace h3f := of_decide_eq_false h3f
            refine AW.exit ?_
            refine retN .nil ?_
            obtain rfl : j = i.args.length := by omega
            rw [List.take_length, ← rd3_t h2t]
            exact ⟨rfl, List.sublist_append_left _ _⟩
      ·
        try replace h2f := of_decide_eq_false h2f
        refine AW.skip ?_
        refine retN .nil ?_
        rw [rd3_f h2f]
        exact ⟨rfl, List.sublist_append_left _ _⟩

theorem reads49 (bf bc g n c : Nat) (pre : List T) (x : Fr) (a : FA) (f0 : Bool) (i : Ins) (hl : x.set.length = x.nr) (ha : i.args.length ≤ 1048576) (hr : ∀ r ∈ readsF i, 0 ≤ r ∧ r < (x.nr : Int)) : ACalls Try.prog 49 [.agg (insCells i), .v (.func (.func 50) #[] #[.pointer (some ⟨bf, 0, none⟩), .pointer (some ⟨bc, 0, none⟩)])] ([Ent.box bf 4 [bv (f0)], Ent.box bc 83 [.ep (.slice (some ⟨g, 0, none⟩) n c) pre.length], Ent.row (some ⟨g, 0, none⟩) n c 87 7 (pre ++ frC x a), Ent.row a.t x.nr x.nr 4 1 (x.set.map bv)]) (fun t S => t = .tup [] ∧ S = [Ent.box bf 4 [bv (f0 && okS x.set (readsF i))], Ent.box bc 83 [.ep (.slice (some ⟨g, 0, none⟩) n c) pre.length], Ent.row (some ⟨g, 0, none⟩) n c 87 7 (pre ++ frC x a), Ent.row a.t x.nr x.nr 4 1 (x.set.map bv)]) :=
  (reads49_ bf bc g n c pre x a f0 i hl ha hr).less fun t S' ⟨h1, h2⟩ => ⟨_, h2, h1, rfl⟩
end Go.Proofs.Ytlfklgganokgdaa

namespace Go.Proofs.Ytlfklgganokgdaa
open Go Go.RowKit
set_option linter.unusedVariables false
set_option linter.unnecessarySimpa false
set_option linter.unusedSimpArgs false

set_option maxHeartbeats 2000000 in
theorem backOne (s g c : Nat) (ps : PS) (x : Fr) (a : FA) (v : Wd64) :
    ACalls Try.prog 63 [.v (.pointer (some ⟨s, 0, none⟩)), zw v] ([Ent.box s 80 (psC ps (.v (.slice (some ⟨g, 0, none⟩) 1 c))), Ent.row (some ⟨g, 0, none⟩) 1 c 87 7 (frC x a)]) (fun t S => t = .tup [] ∧ S = [Ent.box s 80 (psC (backP ps v) (.v (.slice (some ⟨g, 0, none⟩) 1 c))), Ent.row (some ⟨g, 0, none⟩) 1 c 87 7 (frC x a)]) := by
  refine ACalls.intro Try.func63 rfl Try.ntmps63 (Nat.le_of_ble_eq_true rfl) rfl fun X w0 => ?_
  refine AW.rseqQ rfl (by kernel_rfl) ?_
  refine AWQ.y rfl rfl (B rfl) (Yv.move rfl (E rfl rfl)) ?_
  refine AWQ.y rfl rfl (B rfl) (Yv.nilChk rfl (E rfl rfl)) ?_
  refine AWQ.y rfl rfl (B rfl) (Yv.fieldBox rfl fo_80_6 (E rfl rfl)) ?_
  refine AWQ.y rfl rfl (B rfl) (Yv.loadBox rfl ag_78 (i := 0) rfl (E rfl rfl) rfl) ?_
  refine AWQ.y rfl rfl (B rfl) (Yv.move rfl (E rfl rfl)) ?_
  refine AWQ.y rfl rfl (B rfl) (Yv.nilChk rfl (E rfl rfl)) ?_
  refine AWQ.y rfl rfl (B rfl) (Yv.fieldBox rfl fo_80_6 (E rfl rfl)) ?_
  refine AWQ.y rfl rfl (B rfl) (Yv.loadBox rfl ag_78 (i := 0) rfl (E rfl rfl) rfl) ?_
  refine AWQ.y rfl rfl (B rfl) (Yv.lenV rfl so_78 (E rfl rfl)) ?_
  refine AWQ.y rfl rfl (B rfl) (Yv.subN_i64 rfl (E rfl rfl) (E rfl rfl) (fun hg => by omega)) ?_
  refine AWQ.y rfl rfl (B rfl) (Yv.indexRow (j := 0) rfl ss_78 (i := 1) rfl (E rfl rfl) (E rfl rfl) (fun hg => ⟨rfl, by omega⟩)) ?_
  refine AWQ.y rfl rfl (B rfl) (Yv.fieldEp rfl fo_87_6 (E rfl rfl)) ?_
  refine AWQ.y rfl rfl (B rfl) (Yv.loadEp rfl ag_3 (i := 1) rfl (E rfl rfl) (fun _ => rfl)) ?_
  refine AWQ.y rfl rfl (B rfl) (Yv.assign rfl (E rfl rfl)) ?_
  refine AWQ.nil ?_
  refine AW.seq ?_
  refine AW.rseq ?_
  refine Y1 (Yv.move rfl eV) ?_
  refine Y1 (Yv.nilChk rfl eV) ?_
  refine Y1 (Yv.fieldBox rfl fo_80_6 eV) ?_
  refine Y1 (Yv.loadBox rfl ag_78 (i := 0) rfl (E rfl rfl) rfl) ?_
  refine Y1 (Yv.lenV rfl so_78 (E rfl rfl)) ?_
  refine Y1 (Yv.assign rfl eV) ?_
  refine nl ?_
  refine AW.rseq ?_
  refine Y1 (Yv.move rfl eV) ?_
  refine Y1 (Yv.gtr rfl eV eV) ?_
  refine nl ?_
  refine AW.cond rfl (fun h0t => ?_) (fun h0f => ?_)
  ·
    try replace h0t := of_decide_eq_true h0t
    exfalso; omega
  ·
    try replace h0f := of_decide_eq_false h0f
    refine AW.skip ?_
    refine AW.seq ?_
    refine AW.rseq ?_
    refine Y1 (Yv.move rfl eV) ?_
    refine Y1 (Yv.nilChk rfl eV) ?_
    refine Y1 (Yv.fieldBox rfl fo_80_7 eV) ?_
    refine Y1 (Yv.loadBox rfl ag_4 (i := 0) rfl (E rfl rfl) rfl) ?_
    refine nl ?_
    refine AW.cond rfl (fun h1t => ?_) (fun h1f => ?_)
    ·
      try replace h1t := of_decide_eq_true h1t
      refine AW.rseq ?_
      refine Y1 (Yv.move rfl eV) ?_
      refine Y1 (Yv.move rfl eV) ?_
      refine Y1 (Yv.move rfl eV) ?_
      refine Y1 (Yv.nilChk rfl eV) ?_
      refine Y1 (Yv.fieldBox rfl fo_80_8 eV) ?_
      refine AWL.storeBox (i := 0) rfl rfl rfl ag_3 rfl (E rfl rfl) (E rfl rfl) rfl rfl (Nat.le_of_ble_eq_true rfl) ?_
      refine Y1 (Yv.nilChk rfl eV) ?_
      refine Y1 (Yv.fieldBox rfl fo_80_9 eV) ?_
      refine AWL.storeBox (i := 0) rfl rfl rfl ag_39 rfl (E rfl rfl) (E rfl rfl) rfl rfl (Nat.le_of_ble_eq_true rfl) ?_
      refine nl ?_
      refine AW.ret (retI .nil ?_)
      refine ⟨rfl, ?_⟩
      rw [backP, if_pos h1t]
      rfl
    ·
      try replace h1f := of_decide_eq_false h1f
      refine AW.skip ?_
      refine AW.region ?_
      refine Y1 (Yv.move rfl eV) ?_
      refine Y1 (Yv.move rfl eV) ?_
      refine Y1 (Yv.move rfl eV) ?_
      refine Y1 (Yv.andW (b := 255#64) rfl (E rfl rfl) (E rfl rfl)) ?_
      refine Y1 (Yv.conv rfl Try.underlying39 kd_3 (E rfl rfl)) ?_
      refine Y1 (Yv.nilChk rfl eV) ?_
      refine Y1 (Yv.fieldBox rfl fo_80_8 eV) ?_
      refine AWL.storeBox (i := 0) rfl rfl rfl ag_3 rfl (E rfl rfl) (E rfl rfl) rfl rfl (Nat.le_of_ble_eq_true rfl) ?_
      refine Y1 (Yv.nilChk rfl eV) ?_
      refine Y1 (Yv.fieldBox rfl fo_80_10 eV) ?_
      refine AWL.storeBox (i := 0) rfl rfl rfl ag_3 rfl (E rfl rfl) (E rfl rfl) rfl rfl (Nat.le_of_ble_eq_true rfl) ?_
      refine nl ?_
      refine retN .nil ?_
      refine ⟨rfl, ?_⟩
      rw [backP, if_neg (by rw [h1f]; decide)]
      rfl

end Go.Proofs.Ytlfklgganokgdaa

namespace Go.Proofs.Ytlfklgganokgdaa
open Go Go.RowKit
set_option linter.unusedVariables false
set_option linter.unnecessarySimpa false
set_option linter.unusedSimpArgs false

set_option maxHeartbeats 2000000 in
theorem jumpsRetOne_ (s g c : Nat) (ps : PS) (x : Fr) (a : FA) (i : Ins) (hx : FrOk x) (hk : i.kind = 26) (ha : 0 ≤ i.a ∧ i.a < (x.nr : Int)) :
    ACalls Try.prog 52 [.v (.pointer (some ⟨s, 0, none⟩)), .ep (.slice (some ⟨g, 0, none⟩) 1 c) 0, .agg (insCells i)] ([Ent.box s 80 (psC ps (.v (.slice (some ⟨g, 0, none⟩) 1 c))), Ent.row (some ⟨g, 0, none⟩) 1 c 87 7 (frC x a)] ++ frR x a) (fun t S => t = bv true ∧ ([Ent.box s 80 (psC (backP ps (rA x i.a)) (.v (.slice (some ⟨g, 0, none⟩) 1 c))), Ent.row (some ⟨g, 0, none⟩) 1 c 87 7 (frC x a)] ++ frR x a).Sublist S) := by
  have hl1 := hx.r
  obtain ⟨ha0, ha1⟩ := ha
  refine ACalls.intro Try.func52 rfl Try.ntmps52 (Nat.le_of_ble_eq_true rfl) rfl fun X w0 => ?_
  refine AW.rseq ?_
  refine AWL.boxOp rfl rfl (B rfl) rfl (E rfl rfl) rfl (fun b5 => ?_)
  refine Y1 (Yv.assign rfl eV) ?_
  refine nl ?_
  refine AW.seq ?_
  refine AW.rseq ?_
  refine Y1 (Yv.fieldBox rfl fo_58_0 eV) ?_
  refine Y1 (Yv.loadBox rfl ag_3 (i := 6) rfl (E rfl rfl) rfl) ?_
  refine Y1 (Yv.eql rfl eV eV) ?_
  refine nl ?_
  refine AW.cond rfl (fun h0t => ?_) (fun h0f => ?_)
  ·
    try replace h0t := of_decide_eq_true h0t
    refine AW.rseqP rfl ?_
    refine AWP.phase [true, true, true, true, true, true, true, true, true] 1 rfl (by kernel_rfl) (by kernel_rfl) ?_
    refine AWQ.y rfl rfl (B rfl) (Yv.move rfl (E rfl rfl)) ?_
    refine AWQ.y rfl rfl (B rfl) (Yv.move rfl (E rfl rfl)) ?_
    refine AWQ.y rfl rfl (B rfl) (Yv.nilChkEp rfl (E rfl rfl)) ?_
    refine AWQ.y rfl rfl (B rfl) (Yv.fieldEp rfl fo_87_2 (E rfl rfl)) ?_
    refine AWQ.y rfl rfl (B rfl) (Yv.loadEp rfl ag_84 (i := 1) rfl (E rfl rfl) (fun _ => rfl)) ?_
    refine AWQ.y rfl rfl (B rfl) (Yv.fieldBox rfl fo_58_2 (E rfl rfl)) ?_
    refine AWQ.y rfl rfl (B rfl) (Yv.loadBox rfl ag_3 (i := 6) rfl (E rfl rfl) rfl) ?_
    refine AWQ.y rfl rfl (B rfl) (Yv.indexRow (j := i.a.toNat) rfl ss_84 (i := 2) rfl (E rfl rfl) (E rfl rfl) (fun hg => ⟨(Int.toNat_of_nonneg ha0).symm, by omega⟩)) ?_
    refine AWQ.y rfl rfl (B rfl) (Yv.loadEp rfl ag_39 (i := 2) rfl (E rfl rfl) (fun hg => word_at (by omega))) ?_
    refine AWQ.nil ?_
    refine AWP.one (i := 9) (by kernel_rfl) rfl ?_
    refine C1 rfl ce_63 (E rfl rfl) (evsC (E rfl rfl) (evsC (E rfl rfl) evs0)) (S1 := [Ent.box s 80 (psC ps (.v (.slice (some ⟨g, 0, none⟩) 1 c))), Ent.row (some ⟨g, 0, none⟩) 1 c 87 7 (frC x a)]) (S2 := _) rfl (backOne s g c ps x a (rA x i.a)) ?_
    rintro t25 S25 ⟨rfl, rfl⟩
    refine nl ?_
    refine AWP.done (by kernel_rfl) ?_
    refine AW.rseq ?_
    refine Y1 (Yv.assign rfl eV) ?_
    refine nl ?_
    refine AW.ret (retI (.tmp rfl .nil) ?_)
    exact ⟨rfl, List.sublist_append_left _ _⟩
  ·
    try replace h0f := of_decide_eq_false h0f
    exfalso; omega

theorem jumpsRetOne (s g c : Nat) (ps : PS) (x : Fr) (a : FA) (i : Ins) (hx : FrOk x) (hk : i.kind = 26) (ha : 0 ≤ i.a ∧ i.a < (x.nr : Int)) : ACalls Try.prog 52 [.v (.pointer (some ⟨s, 0, none⟩)), .ep (.slice (some ⟨g, 0, none⟩) 1 c) 0, .agg (insCells i)] ([Ent.box s 80 (psC ps (.v (.slice (some ⟨g, 0, none⟩) 1 c))), Ent.row (some ⟨g, 0, none⟩) 1 c 87 7 (frC x a)] ++ frR x a) (fun t S => t = bv true ∧ S = [Ent.box s 80 (psC (backP ps (rA x i.a)) (.v (.slice (some ⟨g, 0, none⟩) 1 c))), Ent.row (some ⟨g, 0, none⟩) 1 c 87 7 (frC x a)] ++ frR x a) :=
  (jumpsRetOne_ s g c ps x a i hx hk ha).less fun t S' ⟨h1, h2⟩ => ⟨_, h2, h1, rfl⟩
end Go.Proofs.Ytlfklgganokgdaa

namespace Go.Proofs.Ytlfklgganokgdaa
open Go Go.RowKit
set_option linter.unusedVariables false
set_option linter.unnecessarySimpa false
set_option linter.unusedSimpArgs false

theorem pmA {α : Type} {a0 a1 a2 a3 a4 a5 a6 a7 a8 : α} {Z : List α} : (a8 :: a6 :: a1 :: a4 :: a0 :: a2 :: a3 :: a5 :: a7 :: Z).Perm (a0 :: a1 :: a2 :: a3 :: a4 :: a5 :: a6 :: a7 :: a8 :: Z) :=
  ((((((((((((((((((((((List.Perm.refl _).cons a7)).cons a5)).cons a3)).cons a2)).cons a0)).cons a4)).trans (List.perm_middle (a := a4) (l₁ := [a0, a2, a3]) (l₂ := a5 :: a7 :: Z)).symm).cons a1)).trans (List.perm_middle (a := a1) (l₁ := [a0]) (l₂ := a2 :: a3 :: a4 :: a5 :: a7 :: Z)).symm).cons a6)).trans (List.perm_middle (a := a6) (l₁ := [a0, a1, a2, a3, a4, a5]) (l₂ := a7 :: Z)).symm).cons a8)).trans (List.perm_middle (a := a8) (l₁ := [a0, a1, a2, a3, a4, a5, a6, a7]) (l₂ := Z)).symm
theorem pmB {α : Type} {a0 a1 a2 a3 a4 a5 a6 a7 a8 : α} {Z : List α} : (a4 :: a2 :: a5 :: a6 :: a3 :: a7 :: a1 :: a8 :: a0 :: Z).Perm (a0 :: a1 :: a2 :: a3 :: a4 :: a5 :: a6 :: a7 :: a8 :: Z) :=
  ((((((((((((((((((((((((((List.Perm.refl _).cons a0)).cons a8)).trans (List.perm_middle (a := a8) (l₁ := [a0]) (l₂ := Z)).symm).cons a1)).trans (List.perm_middle (a := a1) (l₁ := [a0]) (l₂ := a8 :: Z)).symm).cons a7)).trans (List.perm_middle (a := a7) (l₁ := [a0, a1]) (l₂ := a8 :: Z)).symm).cons a3)).trans (List.perm_middle (a := a3) (l₁ := [a0, a1]) (l₂ := a7 :: a8 :: Z)).symm).cons a6)).trans (List.perm_middle (a := a6) (l₁ := [a0, a1, a3]) (l₂ := a7 :: a8 :: Z)).symm).cons a5)).trans (List.perm_middle (a := a5) (l₁ := [a0, a1, a3]) (l₂ := a6 :: a7 :: a8 :: Z)).symm).cons a2)).trans (List.perm_middle (a := a2) (l₁ := [a0, a1]) (l₂ := a3 :: a5 :: a6 :: a7 :: a8 :: Z)).symm).cons a4)).trans (List.perm_middle (a := a4) (l₁ := [a0, a1, a2, a3]) (l₂ := a5 :: a6 :: a7 :: a8 :: Z)).symm
set_option maxHeartbeats 16000000 in
theorem do32A_ (R : Int → Wd64 → Wd64 → Wd64) (s g n c : Nat) (ps : PS) (pre : List T) (x : Fr) (a : FA) (i : Ins) (hx : FrOk x) (hk : valK i.kind ∨ i.kind = 32) (ha : (hasF i.kind).a = true → 0 ≤ i.a ∧ i.a < (x.nr : Int)) (hb : (hasF i.kind).b = true → 0 ≤ i.b ∧ i.b < (x.nr : Int)) (hs : i.kind = 31 ∨ i.kind = 32 → 0 ≤ i.imm ∧ i.imm < (x.ns : Int)) (hR : i.kind = 16 → ACalls Try.prog 72 [zi i.real, zw (rA x i.a), zw (rA x i.b)] [] (fun t S => t = zw (R i.real (rA x i.a) (rA x i.b)))) (hd : (hasF i.kind).d = true → 0 ≤ i.d ∧ i.d < (x.nr : Int)) (hr : ∀ r ∈ readsF i, 0 ≤ r ∧ r < (x.nr : Int)) (hg : i.args.length ≤ 1048576) (hat : 0 ≤ x.at_ ∧ x.at_ ≤ 4611686018427387904) :
    ACalls Try.prog 32 [.v (.pointer (some ⟨s, 0, none⟩)), .ep (.slice (some ⟨g, 0, none⟩) n c) pre.length, .agg (insCells i)] ([Ent.box s 80 (psC ps (.v (.slice (some ⟨g, 0, none⟩) n c))), Ent.row (some ⟨g, 0, none⟩) n c 87 7 (pre ++ frC x a)] ++ frR x a) (fun t S => t = bv (stepA R ps.heap x i).isSome ∧ ([Ent.box s 80 (psC ps (.v (.slice (some ⟨g, 0, none⟩) n c))), Ent.row (some ⟨g, 0, none⟩) n c 87 7 (pre ++ frC ((stepA R ps.heap x i).getD x) a)] ++ frR ((stepA R ps.heap x i).getD x) a).Sublist S) := by
  have hl1 := hx.r
  have hl2 := hx.s
  have hl3 := hx.t
  have hl4 := hx.h
  obtain ⟨hat0, hat1⟩ := hat
  refine ACalls.intro Try.func32 rfl Try.ntmps32 (Nat.le_of_ble_eq_true rfl) rfl fun X w0 => ?_
  refine AW.rseq ?_
  refine AWL.boxOp rfl rfl (B rfl) rfl (E rfl rfl) rfl (fun b4 => ?_)
  refine AWL.boxOp rfl rfl (B rfl) rfl (E rfl rfl) rfl (fun b5 => ?_)
  refine Y1 (Yv.assign rfl eV) ?_
  refine nl ?_
  refine AW.rseq ?_
  refine AWL.allocOp rfl rfl (B rfl) rfl zc_4 (fun b7 => ?_)
  refine AWL.storeBox (i := 8) rfl rfl rfl ag_4 rfl (E rfl rfl) (E rfl rfl) rfl rfl (Nat.le_of_ble_eq_true rfl) ?_
  refine nl ?_
  refine AW.rseq ?_
  refine Y1 (Yv.loadBoxA rfl ag_58 (i := 7) rfl (E rfl rfl) rfl rfl) ?_
  refine Y1 (Yv.makeFunc rfl evs0 rfl (evsC (E rfl rfl) (evsC (E rfl rfl) evs0)) rfl) ?_
  refine AWL.perm (S' := [Ent.box b7 4 [bv (true)], Ent.box b4 83 [.ep (.slice (some ⟨g, 0, none⟩) n c) pre.length], Ent.row (some ⟨g, 0, none⟩) n c 87 7 (pre ++ frC x a), Ent.row a.t x.nr x.nr 4 1 (x.set.map bv)] ++ [Ent.box s 80 (psC ps (.v (.slice (some ⟨g, 0, none⟩) n c))), Ent.row a.r x.nr x.nr 39 1 (x.r.map zw), Ent.row a.s x.ns x.ns 39 1 (x.slot.map zw), Ent.row a.h x.ns x.ns 4 1 (x.there.map bv), Ent.box b5 58 (insCells i)]) pmA ?_
  refine C1 rfl ce_49 (E rfl rfl) (evsC (E rfl rfl) (evsC (E rfl rfl) evs0)) (S1 := [Ent.box b7 4 [bv (true)], Ent.box b4 83 [.ep (.slice (some ⟨g, 0, none⟩) n c) pre.length], Ent.row (some ⟨g, 0, none⟩) n c 87 7 (pre ++ frC x a), Ent.row a.t x.nr x.nr 4 1 (x.set.map bv)]) (S2 := _) rfl (reads49 b7 b4 g n c pre x a true i hx.t hg hr) ?_
  rintro t14 S14 ⟨rfl, rfl⟩
  refine AWL.perm (S' := [Ent.box s 80 (psC ps (.v (.slice (some ⟨g, 0, none⟩) n c))), Ent.row (some ⟨g, 0, none⟩) n c 87 7 (pre ++ frC x a)] ++ frR x a ++ [Ent.box b4 83 [.ep (.slice (some ⟨g, 0, none⟩) n c) pre.length], Ent.box b5 58 (insCells i), Ent.box b7 4 [bv (okS x.set (readsF i))]]) pmB ?_
  refine nl ?_
  refine AW.seq ?_
  refine AW.rseq ?_
  refine Y1 (Yv.loadBox rfl ag_4 (i := 8) rfl (E rfl rfl) rfl) ?_
  refine Y1 (Yv.not rfl eV) ?_
  refine nl ?_
  refine AW.cond rfl (fun h0t => ?_) (fun h0f => ?_)
  ·
    try replace h0t := of_decide_eq_true h0t
    refine AW.rseq ?_
    refine Y1 (Yv.assign rfl eV) ?_
    refine nl ?_
    refine AW.ret (retI (.tmp rfl .nil) ?_)
    rw [stepA_0 (by simpa using h0t)]
    exact ⟨rfl, List.sublist_append_left _ _⟩
  ·
    try replace h0f := of_decide_eq_false h0f
    have hok : okS x.set (readsF i) = true := by simpa using h0f
    refine AW.skip ?_
    refine AW.rseq ?_
    refine Y1 (Yv.assign rfl eV) ?_
    refine Y1 (Yv.assign rfl eV) ?_
    refine nl ?_
    refine AW.mid (α := (Wd64 × Bool × Fr)) (fun y => [(0, true, .v (.pointer (some ⟨s, 0, none⟩))), (4, true, .v (.pointer (some ⟨b4, 0, none⟩))), (5, true, .v (.pointer (some ⟨b5, 0, none⟩))), (8, true, zw y.1), (9, true, bv y.2.1)]) (fun y => ([Ent.box s 80 (psC ps (.v (.slice (some ⟨g, 0, none⟩) n c))), Ent.row (some ⟨g, 0, none⟩) n c 87 7 (pre ++ frC y.2.2 a)] ++ frR y.2.2 a) ++ [Ent.box b4 83 [.ep (.slice (some ⟨g, 0, none⟩) n c) pre.length], Ent.box b5 58 (insCells i), Ent.box b7 4 [bv (okS x.set (readsF i))]]) (fun y => midA R ps.heap x i y.1 y.2.1 y.2.2) ?_ ?_
    ·
      refine AW.rseq ?_
      refine Y1 (Yv.fieldBox rfl fo_58_0 eV) ?_
      refine Y1 (Yv.loadBox rfl ag_3 (i := 7) rfl (E rfl rfl) rfl) ?_
      refine nl ?_
      refine AW.block ?_
      refine AW.rseq ?_
      refine Y1 (Yv.eql rfl eV eV) ?_
      refine Y1 (Yv.assign rfl eV) ?_
      refine nl ?_
      refine AW.cond rfl (fun h1t => ?_) (fun h1f => ?_)
      ·
        try replace h1t := of_decide_eq_true h1t
        exfalso; unfold valK at hk; omega
      ·
        try replace h1f := of_decide_eq_false h1f
        refine AW.rseq ?_
        refine Y1 (Yv.eql rfl eV eV) ?_
        refine Y1 (Yv.assign rfl eV) ?_
        refine nl ?_
        refine AW.cond rfl (fun h2t => ?_) (fun h2f => ?_)
        ·
          try replace h2t := of_decide_eq_true h2t
          exfalso; unfold valK at hk; omega
        ·
          try replace h2f := of_decide_eq_false h2f
          refine AW.seq ?_
          refine AW.rseq ?_
          refine Y1 (Yv.eql rfl eV eV) ?_
          refine Y1 (Yv.assign rfl eV) ?_
          refine nl ?_
          refine AW.cond rfl (fun h3t => ?_) (fun h3f => ?_)
          ·
            try replace h3t := of_decide_eq_true h3t
            exfalso; unfold valK at hk; omega
          ·
            try replace h3f := of_decide_eq_false h3f
            refine AW.rseq ?_
            refine Y1 (Yv.eql rfl eV eV) ?_
            refine Y1 (Yv.assign rfl eV) ?_
            refine nl ?_
            refine AW.cond rfl (fun h4t => ?_) (fun h4f => ?_)
            ·
              try replace h4t := of_decide_eq_true h4t
              exfalso; unfold valK at hk; omega
            ·
              try replace h4f := of_decide_eq_false h4f
              refine AW.rseq ?_
              refine Y1 (Yv.eql rfl eV eV) ?_
              refine Y1 (Yv.assign rfl eV) ?_
              refine nl ?_
              refine AW.cond rfl (fun h5t => ?_) (fun h5f => ?_)
              ·
                try replace h5t := of_decide_eq_true h5t
                exfalso; unfold valK at hk; omega
              ·
                try replace h5f := of_decide_eq_false h5f
                refine AW.rseq ?_
                refine Y1 (Yv.eql rfl eV eV) ?_
                refine Y1 (Yv.assign rfl eV) ?_
                refine nl ?_
                refine AW.cond rfl (fun h6t => ?_) (fun h6f => ?_)
                ·
                  try replace h6t := of_decide_eq_true h6t
                  exfalso; unfold valK at hk; omega
                ·
                  try replace h6f := of_decide_eq_false h6f
                  refine AW.region ?_
                  refine Y1 (Yv.eql rfl eV eV) ?_
                  refine Y1 (Yv.assign rfl eV) ?_
                  refine nl ?_
                  refine AW.cond rfl (fun h7t => ?_) (fun h7f => ?_)
                  ·
                    try replace h7t := of_decide_eq_true h7t
                    exfalso; unfold valK at hk; omega
                  ·
                    try replace h7f := of_decide_eq_false h7f
                    refine AW.rseq ?_
                    refine Y1 (Yv.eql rfl eV eV) ?_
                    refine Y1 (Yv.assign rfl eV) ?_
                    refine nl ?_
                    refine AW.cond rfl (fun h8t => ?_) (fun h8f => ?_)
                    ·
                      try replace h8t := of_decide_eq_true h8t
                      exfalso; unfold valK at hk; omega
                    ·
                      try replace h8f := of_decide_eq_false h8f
                      refine AW.rseq ?_
                      refine Y1 (Yv.eql rfl eV eV) ?_
                      refine Y1 (Yv.assign rfl eV) ?_
                      refine nl ?_
                      refine AW.cond rfl (fun h9t => ?_) (fun h9f => ?_)
                      ·
                        try replace h9t := of_decide_eq_true h9t
                        obtain ⟨hs0, hs1⟩ := hs (.inr h9t)
                        obtain ⟨ha0, ha1⟩ := ha (by rw [h9t]; rfl)
                        refine AW.regionH (HeldCs [(b4, 0, Value.pointer (some ⟨g, pre.length, none⟩)), (g, pre.length + 3, Value.slice a.s x.ns x.ns), (b5, 9, Value.int .i64 i.imm), (g, pre.length + 5, Value.slice a.h x.ns x.ns), (g, pre.length + 2, Value.slice a.r x.nr x.nr), (b5, 2, Value.int .i64 i.a)]) rfl (tells_cs (tcB 6 rfl rfl pinE (tcR 1 rfl fr3 pinV (tcB 7 rfl rfl pinV (tcR 1 rfl fr5 pinV (tcR 1 rfl fr2 pinV (tcB 7 rfl rfl pinV tc0))))))) ?_
                        refine AWH.take (i := 0) rfl (by kernel_rfl) (by kernel_rfl) (by kernel_rfl) rfl rfl (B rfl) (heldB (r := .ep (.slice (some ⟨g, 0, none⟩) n c) pre.length) 0 rfl ag_83 (E rfl rfl) rfl (fun _ _ => .ep)) ?_
                        refine AWH.take (i := 1) rfl (by kernel_rfl) (by kernel_rfl) (by kernel_rfl) rfl rfl (B rfl) (heldAll (freeNilEp rfl (E rfl rfl))) ?_
                        refine AWH.take (i := 2) rfl (by kernel_rfl) (by kernel_rfl) (by kernel_rfl) rfl rfl (B rfl) (heldAll (freeFieldEp rfl fo_87_3 (E rfl rfl))) ?_
                        refine AWH.take (i := 3) rfl (by kernel_rfl) (by kernel_rfl) (by kernel_rfl) rfl rfl (B rfl) (heldE 1 rfl ag_84 (E rfl rfl) rfl (fun _ _ => .v _)) ?_
                        refine AWH.take (i := 4) rfl (by kernel_rfl) (by kernel_rfl) (by kernel_rfl) rfl rfl (B rfl) (heldAll (freeField rfl fo_58_9 (E rfl rfl))) ?_
                        refine AWH.take (i := 5) rfl (by kernel_rfl) (by kernel_rfl) (by kernel_rfl) rfl rfl (B rfl) (heldB 2 rfl ag_2 (E rfl rfl) rfl (fun _ _ => .v _)) ?_
                        refine AWH.take (i := 6) rfl (by kernel_rfl) (by kernel_rfl) (by kernel_rfl) rfl rfl (B rfl) (heldB (r := .ep (.slice (some ⟨g, 0, none⟩) n c) pre.length) 0 rfl ag_83 (E rfl rfl) rfl (fun _ _ => .ep)) ?_
                        refine AWH.take (i := 7) rfl (by kernel_rfl) (by kernel_rfl) (by kernel_rfl) rfl rfl (B rfl) (heldAll (freeNilEp rfl (E rfl rfl))) ?_
                        refine AWH.take (i := 8) rfl (by kernel_rfl) (by kernel_rfl) (by kernel_rfl) rfl rfl (B rfl) (heldAll (freeFieldEp rfl fo_87_5 (E rfl rfl))) ?_
                        refine AWH.take (i := 9) rfl (by kernel_rfl) (by kernel_rfl) (by kernel_rfl) rfl rfl (B rfl) (heldE 3 rfl ag_85 (E rfl rfl) rfl (fun _ _ => .v _)) ?_
                        refine AWH.take (i := 10) rfl (by kernel_rfl) (by kernel_rfl) (by kernel_rfl) rfl rfl (B rfl) (heldAll (freeField rfl fo_58_9 (E rfl rfl))) ?_
                        refine AWH.take (i := 11) rfl (by kernel_rfl) (by kernel_rfl) (by kernel_rfl) rfl rfl (B rfl) (heldB 2 rfl ag_2 (E rfl rfl) rfl (fun _ _ => .v _)) ?_
                        refine AWH.take (i := 12) rfl (by kernel_rfl) (by kernel_rfl) (by kernel_rfl) rfl rfl (B rfl) (heldB (r := .ep (.slice (some ⟨g, 0, none⟩) n c) pre.length) 0 rfl ag_83 (E rfl rfl) rfl (fun _ _ => .ep)) ?_
                        refine AWH.take (i := 13) rfl (by kernel_rfl) (by kernel_rfl) (by kernel_rfl) rfl rfl (B rfl) (heldAll (freeNilEp rfl (E rfl rfl))) ?_
                        refine AWH.take (i := 14) rfl (by kernel_rfl) (by kernel_rfl) (by kernel_rfl) rfl rfl (B rfl) (heldAll (freeFieldEp rfl fo_87_2 (E rfl rfl))) ?_
                        refine AWH.take (i := 15) rfl (by kernel_rfl) (by kernel_rfl) (by kernel_rfl) rfl rfl (B rfl) (heldE 4 rfl ag_84 (E rfl rfl) rfl (fun _ _ => .v _)) ?_
                        refine AWH.one (i := 16) (by kernel_rfl) rfl ?_
                        refine Y1 (Yv.fieldBox rfl fo_58_2 eV) ?_
                        refine AWL.nil (kpH (tcB 6 rfl rfl pinE (tcR 1 rfl fr3 pinV (tcB 7 rfl rfl pinV (tcR 1 rfl fr5 pinV (tcR 1 rfl fr2 pinV (tcB 7 rfl rfl pinV tc0)))))) ?_)
                        refine AWH.one (i := 17) (by kernel_rfl) rfl ?_
                        refine Y1 (Yv.loadBox rfl ag_3 (i := 7) rfl (E rfl rfl) rfl) ?_
                        refine AWL.nil (kpH (tcB 6 rfl rfl pinE (tcR 1 rfl fr3 pinV (tcB 7 rfl rfl pinV (tcR 1 rfl fr5 pinV (tcR 1 rfl fr2 pinV (tcB 7 rfl rfl pinV tc0)))))) ?_)
                        refine AWH.one (i := 18) (by kernel_rfl) rfl ?_
                        refine Y1 (Yv.indexRow (j := i.a.toNat) rfl ss_84 (i := 2) rfl (E rfl rfl) (E rfl rfl) (fun hg => ⟨(Int.toNat_of_nonneg ha0).symm, show i.a.toNat < x.nr by omega⟩)) ?_
                        refine AWL.nil (kpH (tcB 6 rfl rfl pinE (tcR 1 rfl fr3 pinV (tcB 7 rfl rfl pinV (tcR 1 rfl fr5 pinV (tcR 1 rfl fr2 pinV (tcB 7 rfl rfl pinV tc0)))))) ?_)
                        refine AWH.one (i := 19) (by kernel_rfl) rfl ?_
                        refine Y1 (Yv.loadEp rfl ag_39 (i := 2) rfl (E rfl rfl) (fun hg => word_at (by omega))) ?_
                        refine AWL.nil (kpH (tcB 6 rfl rfl pinE (tcR 1 rfl fr3 pinV (tcB 7 rfl rfl pinV (tcR 1 rfl fr5 pinV (tcR 1 rfl fr2 pinV (tcB 7 rfl rfl pinV tc0)))))) ?_)
                        refine AWH.one (i := 20) (by kernel_rfl) rfl ?_
                        refine Y1 (Yv.indexRow (j := i.imm.toNat) rfl ss_84 (i := 3) rfl (E rfl rfl) (E rfl rfl) (fun hg => ⟨(Int.toNat_of_nonneg hs0).symm, show i.imm.toNat < x.ns by omega⟩)) ?_
                        refine AWL.nil (kpH (tcB 6 rfl rfl pinE (tcR 1 rfl fr3 pinV (tcB 7 rfl rfl pinV (tcR 1 rfl fr5 pinV (tcR 1 rfl fr2 pinV (tcB 7 rfl rfl pinV tc0)))))) ?_)
                        refine AWH.one (i := 21) (by kernel_rfl) rfl ?_
                        refine AWL.storeEp1 (i := 3) rfl rfl rfl ag_39 rfl (E rfl rfl) (E rfl rfl) rfl rfl (by first | (rw [List.length_map]; omega) | omega) ?_
                        refine AWL.nil (kpH (tcB 6 rfl rfl pinE (tcR 1 rfl fr3 pinV (tcB 7 rfl rfl pinV (tcR 1 rfl fr5 pinV (tcR 1 rfl fr2 pinV (tcB 7 rfl rfl pinV tc0)))))) ?_)
                        refine AWH.one (i := 22) (by kernel_rfl) rfl ?_
                        refine Y1 (Yv.indexRow (j := i.imm.toNat) rfl ss_85 (i := 5) rfl (E rfl rfl) (E rfl rfl) (fun hg => ⟨(Int.toNat_of_nonneg hs0).symm, show i.imm.toNat < x.ns by omega⟩)) ?_
                        refine AWL.nil (kpH (tcB 6 rfl rfl pinE (tcR 1 rfl fr3 pinV (tcB 7 rfl rfl pinV (tcR 1 rfl fr5 pinV (tcR 1 rfl fr2 pinV (tcB 7 rfl rfl pinV tc0)))))) ?_)
                        refine AWH.one (i := 23) (by kernel_rfl) rfl ?_
                        refine AWL.storeEp1 (i := 5) rfl rfl rfl ag_4 rfl (E rfl rfl) (E rfl rfl) rfl rfl (by first | (rw [List.length_map]; omega) | omega) ?_
                        refine AWL.nil (kpH (tcB 6 rfl rfl pinE (tcR 1 rfl fr3 pinV (tcB 7 rfl rfl pinV (tcR 1 rfl fr5 pinV (tcR 1 rfl fr2 pinV (tcB 7 rfl rfl pinV tc0)))))) ?_)
                        refine AWH.done (by kernel_rfl) ?_
                        refine ⟨(0#64, true, putF x i), .inl ⟨h9t, rfl, rfl⟩, (Sub.cons rfl rfl (Sub.cons rfl rfl (Sub.cons rfl rfl (Sub.cons rfl rfl (Sub.cons rfl rfl Sub.nil))))), ?_⟩
                        rw [putF_rows]
                        rfl
                      ·
                        try replace h9f := of_decide_eq_false h9f
                        refine AW.rseq ?_
                        refine Y1 (Yv.eql rfl eV eV) ?_
                        refine Y1 (Yv.assign rfl eV) ?_
                        refine nl ?_
                        refine AW.cond rfl (fun h10t => ?_) (fun h10f => ?_)
                        ·
                          try replace h10t := of_decide_eq_true h10t
                          exfalso; unfold valK at hk; omega
                        ·
                          try replace h10f := of_decide_eq_false h10f
                          refine AW.rseq ?_
                          refine Y1 (Yv.eql rfl eV eV) ?_
                          refine Y1 (Yv.assign rfl eV) ?_
                          refine nl ?_
                          refine AW.cond rfl (fun h11t => ?_) (fun h11f => ?_)
                          ·
                            try replace h11t := of_decide_eq_true h11t
                            exfalso; unfold valK at hk; omega
                          ·
                            try replace h11f := of_decide_eq_false h11f
                            have hkv : valK i.kind := by
                              rcases hk with h | h
                              · exact h
                              · omega
                            refine AW.region ?_
                            refine Y1 (Yv.move rfl eV) ?_
                            refine Y1 (Yv.loadBox rfl ag_83 (i := 6) rfl (E rfl rfl) rfl) ?_
                            refine Y1 (Yv.loadBoxA rfl ag_58 (i := 7) rfl (E rfl rfl) rfl rfl) ?_
                            refine C1 rfl ce_56 (E rfl rfl) (evsC (E rfl rfl) (evsC (E rfl rfl) (evsC (E rfl rfl) evs0))) (S1 := [Ent.box s 80 (psC ps (.v (.slice (some ⟨g, 0, none⟩) n c))), Ent.row (some ⟨g, 0, none⟩) n c 87 7 (pre ++ frC x a)] ++ frR x a) (S2 := _) rfl (value56 R s g n c ps pre x a i hx hkv ha hb (fun h => hs (.inl h)) hR) ?_
                            rintro t23 S23 ⟨rfl, rfl⟩
                            refine Y1 (Yv.move rfl eV) ?_
                            refine Y1 (Yv.extract rfl eV rfl) ?_
                            refine Y1 (Yv.extract rfl eV rfl) ?_
                            refine Y1 (Yv.assign rfl eV) ?_
                            refine Y1 (Yv.assign rfl eV) ?_
                            refine nl ?_
                            exact ⟨((valueF R ps.heap x i).1, (valueF R ps.heap x i).2, x), .inr ⟨hkv, rfl, rfl, rfl⟩, (Sub.cons rfl rfl (Sub.cons rfl rfl (Sub.cons rfl rfl (Sub.cons rfl rfl (Sub.cons rfl rfl Sub.nil))))), rfl⟩
    ·
      rintro ⟨v, ok, x1⟩ hm
      dsimp only at hm
      show AW _ _ _ [(0, true, .v (.pointer (some ⟨s, 0, none⟩))), (4, true, .v (.pointer (some ⟨b4, 0, none⟩))), (5, true, .v (.pointer (some ⟨b5, 0, none⟩))), (8, true, zw v), (9, true, bv ok)] (([Ent.box s 80 (psC ps (.v (.slice (some ⟨g, 0, none⟩) n c))), Ent.row (some ⟨g, 0, none⟩) n c 87 7 (pre ++ frC x1 a)] ++ frR x1 a) ++ [Ent.box b4 83 [.ep (.slice (some ⟨g, 0, none⟩) n c) pre.length], Ent.box b5 58 (insCells i), Ent.box b7 4 [bv (okS x.set (readsF i))]])
      obtain ⟨hx1, hnr, hat3⟩ := midA_ok hm hx
      have hm1 := hx1.r
      have hm3 := hx1.t
      refine AW.seq ?_
      refine AW.rseq ?_
      refine Y1 (Yv.move rfl eV) ?_
      refine Y1 (Yv.not rfl eV) ?_
      refine nl ?_
      refine AW.cond rfl (fun h12t => ?_) (fun h12f => ?_)
      ·
        try replace h12t := of_decide_eq_true h12t
        refine AW.rseq ?_
        refine Y1 (Yv.assign rfl eV) ?_
        refine nl ?_
        refine AW.ret (retI (.tmp rfl .nil) ?_)
        obtain ⟨e1, e2⟩ := stepA_1 hok hm (by simpa using h12t)
        rw [e1]
        subst e2
        exact ⟨rfl, List.sublist_append_left _ _⟩
      ·
        try replace h12f := of_decide_eq_false h12f
        refine AW.skip ?_
        refine AW.seq ?_
        refine AW.rseq ?_
        refine Y1 (Yv.fieldBox rfl fo_58_0 eV) ?_
        refine Y1 (Yv.loadBox rfl ag_3 (i := 7) rfl (E rfl rfl) rfl) ?_
        refine AWL.callT rfl rfl (B rfl) rfl ce_57 (E rfl rfl) (evsC (E rfl rfl) evs0) (fields57 i.kind) ?_
        rintro t188 S188 rfl
        refine Y1 (Yv.move rfl eV) ?_
        refine Y1 (Yv.extract rfl eV rfl) ?_
        refine Y1 (Yv.extract rfl eV rfl) ?_
        refine AWL.allocOp rfl rfl (B rfl) rfl zc_122 (fun b10 => ?_)
        refine AWL.storeBox (i := 9) rfl rfl rfl ag_122 rfl (E rfl rfl) (E rfl rfl) rfl rfl (Nat.le_of_ble_eq_true rfl) ?_
        refine Y1 (Yv.assign rfl eV) ?_
        refine nl ?_
        refine AW.rseq ?_
        refine Y1 (Yv.fieldBox rfl fo_122_0 eV) ?_
        refine Y1 (Yv.loadBox rfl ag_4 (i := 9) rfl (E rfl rfl) rfl) ?_
        refine nl ?_
        refine AW.cond rfl (fun h13t => ?_) (fun h13f => ?_)
        ·
          try replace h13t := of_decide_eq_true h13t
          obtain ⟨hd0, hd1⟩ := hd h13t
          refine AW.regionH (HeldCs [(b4, 0, Value.pointer (some ⟨g, pre.length, none⟩)), (g, pre.length + 2, Value.slice a.r x1.nr x1.nr), (b5, 1, Value.int .i64 i.d), (g, pre.length + 4, Value.slice a.t x1.nr x1.nr)]) rfl (tells_cs (tcB 6 rfl rfl pinE (tcR 1 rfl fr2 pinV (tcB 7 rfl rfl pinV (tcR 1 rfl fr4 pinV tc0))))) ?_
          refine AWH.take (i := 0) rfl (by kernel_rfl) (by kernel_rfl) (by kernel_rfl) rfl rfl (B rfl) (heldB (r := .ep (.slice (some ⟨g, 0, none⟩) n c) pre.length) 0 rfl ag_83 (E rfl rfl) rfl (fun _ _ => .ep)) ?_
          refine AWH.take (i := 1) rfl (by kernel_rfl) (by kernel_rfl) (by kernel_rfl) rfl rfl (B rfl) (heldAll (freeNilEp rfl (E rfl rfl))) ?_
          refine AWH.take (i := 2) rfl (by kernel_rfl) (by kernel_rfl) (by kernel_rfl) rfl rfl (B rfl) (heldAll (freeFieldEp rfl fo_87_2 (E rfl rfl))) ?_
          refine AWH.take (i := 3) rfl (by kernel_rfl) (by kernel_rfl) (by kernel_rfl) rfl rfl (B rfl) (heldE 1 rfl ag_84 (E rfl rfl) rfl (fun _ _ => .v _)) ?_
          refine AWH.take (i := 4) rfl (by kernel_rfl) (by kernel_rfl) (by kernel_rfl) rfl rfl (B rfl) (heldAll (freeField rfl fo_58_1 (E rfl rfl))) ?_
          refine AWH.take (i := 5) rfl (by kernel_rfl) (by kernel_rfl) (by kernel_rfl) rfl rfl (B rfl) (heldB 2 rfl ag_3 (E rfl rfl) rfl (fun _ _ => .v _)) ?_
          refine AWH.take (i := 6) rfl (by kernel_rfl) (by kernel_rfl) (by kernel_rfl) rfl rfl (B rfl) (heldB (r := .ep (.slice (some ⟨g, 0, none⟩) n c) pre.length) 0 rfl ag_83 (E rfl rfl) rfl (fun _ _ => .ep)) ?_
          refine AWH.take (i := 7) rfl (by kernel_rfl) (by kernel_rfl) (by kernel_rfl) rfl rfl (B rfl) (heldAll (freeNilEp rfl (E rfl rfl))) ?_
          refine AWH.take (i := 8) rfl (by kernel_rfl) (by kernel_rfl) (by kernel_rfl) rfl rfl (B rfl) (heldAll (freeFieldEp rfl fo_87_4 (E rfl rfl))) ?_
          refine AWH.take (i := 9) rfl (by kernel_rfl) (by kernel_rfl) (by kernel_rfl) rfl rfl (B rfl) (heldE 3 rfl ag_85 (E rfl rfl) rfl (fun _ _ => .v _)) ?_
          refine AWH.take (i := 10) rfl (by kernel_rfl) (by kernel_rfl) (by kernel_rfl) rfl rfl (B rfl) (heldAll (freeField rfl fo_58_1 (E rfl rfl))) ?_
          refine AWH.take (i := 11) rfl (by kernel_rfl) (by kernel_rfl) (by kernel_rfl) rfl rfl (B rfl) (heldB 2 rfl ag_3 (E rfl rfl) rfl (fun _ _ => .v _)) ?_
          refine AWH.one (i := 12) (by kernel_rfl) rfl ?_
          refine Y1 (Yv.move rfl eV) ?_
          refine AWL.nil (kpH (tcB 6 rfl rfl pinE (tcR 1 rfl fr2 pinV (tcB 7 rfl rfl pinV (tcR 1 rfl fr4 pinV tc0)))) ?_)
          refine AWH.one (i := 13) (by kernel_rfl) rfl ?_
          refine Y1 (Yv.indexRow (j := i.d.toNat) rfl ss_84 (i := 2) rfl (E rfl rfl) (E rfl rfl) (fun hg => ⟨(Int.toNat_of_nonneg hd0).symm, show i.d.toNat < x1.nr by omega⟩)) ?_
          refine AWL.nil (kpH (tcB 6 rfl rfl pinE (tcR 1 rfl fr2 pinV (tcB 7 rfl rfl pinV (tcR 1 rfl fr4 pinV tc0)))) ?_)
          refine AWH.one (i := 14) (by kernel_rfl) rfl ?_
          refine AWL.storeEp1 (i := 2) rfl rfl rfl ag_39 rfl (E rfl rfl) (E rfl rfl) rfl rfl (by first | (rw [List.length_map]; omega) | omega) ?_
          refine AWL.nil (kpH (tcB 6 rfl rfl pinE (tcR 1 rfl fr2 pinV (tcB 7 rfl rfl pinV (tcR 1 rfl fr4 pinV tc0)))) ?_)
          refine AWH.one (i := 15) (by kernel_rfl) rfl ?_
          refine Y1 (Yv.indexRow (j := i.d.toNat) rfl ss_85 (i := 4) rfl (E rfl rfl) (E rfl rfl) (fun hg => ⟨(Int.toNat_of_nonneg hd0).symm, show i.d.toNat < x1.nr by omega⟩)) ?_
          refine AWL.nil (kpH (tcB 6 rfl rfl pinE (tcR 1 rfl fr2 pinV (tcB 7 rfl rfl pinV (tcR 1 rfl fr4 pinV tc0)))) ?_)
          refine AWH.one (i := 16) (by kernel_rfl) rfl ?_
          refine AWL.storeEp1 (i := 4) rfl rfl rfl ag_4 rfl (E rfl rfl) (E rfl rfl) rfl rfl (by first | (rw [List.length_map]; omega) | omega) ?_
          refine AWL.nil (kpH (tcB 6 rfl rfl pinE (tcR 1 rfl fr2 pinV (tcB 7 rfl rfl pinV (tcR 1 rfl fr4 pinV tc0)))) ?_)
          refine AWH.done (by kernel_rfl) ?_
          refine AW.rseq ?_
          refine Y1 (Yv.loadBox rfl ag_83 (i := 6) rfl (E rfl rfl) rfl) ?_
          refine Y1 (Yv.nilChkEp rfl (E rfl rfl)) ?_
          refine Y1 (Yv.fieldEp rfl fo_87_1 (E rfl rfl)) ?_
          refine Y1 (Yv.loadEp rfl ag_3 (i := 1) rfl (E rfl rfl) (fun hg => fr1)) ?_
          refine Y1 (Yv.addN_i64 rfl (E rfl rfl) (E rfl rfl) (fun hg => by omega)) ?_
          refine Y1 (Yv.nilChkEp rfl (E rfl rfl)) ?_
          refine Y1 (Yv.fieldEp rfl fo_87_1 (E rfl rfl)) ?_
          refine AWL.storeEp1 (i := 1) rfl rfl rfl ag_3 rfl (E rfl rfl) (E rfl rfl) rfl rfl (by rw [fr_len]; omega) ?_
          refine nl ?_
          refine AW.rseq ?_
          refine Y1 (Yv.assign rfl eV) ?_
          refine nl ?_
          refine AW.ret (retI (.tmp rfl .nil) ?_)
          rw [stepA_2 hok hm (by simpa using h12f) h13t]
          refine ⟨rfl, ?_⟩
          refine (List.sublist_append_left ([Ent.box s 80 (psC ps (.v (.slice (some ⟨g, 0, none⟩) n c))), Ent.row (some ⟨g, 0, none⟩) n c 87 7 (pre ++ frC (goF (setD x1 i.d v)) a)] ++ frR (goF (setD x1 i.d v)) a) [Ent.box b4 83 [.ep (.slice (some ⟨g, 0, none⟩) n c) pre.length], Ent.box b5 58 (insCells i), Ent.box b7 4 [bv (okS x.set (readsF i))], Ent.box b10 122 (hasCells (hasF i.kind))]).trans ?_
          rw [show frR (goF (setD x1 i.d v)) a = frR (setD x1 i.d v) a from rfl, setD_rows, show frC (goF (setD x1 i.d v)) a = frC (goF x1) a from rfl, show goF x1 = { x1 with at_ := x1.at_ + 1 } from rfl, ← fr_jump]
          exact List.Sublist.refl _
        ·
          try replace h13f := of_decide_eq_false h13f
          refine AW.skip ?_
          refine AW.rseq ?_
          refine Y1 (Yv.loadBox rfl ag_83 (i := 6) rfl (E rfl rfl) rfl) ?_
          refine Y1 (Yv.nilChkEp rfl (E rfl rfl)) ?_
          refine Y1 (Yv.fieldEp rfl fo_87_1 (E rfl rfl)) ?_
          refine Y1 (Yv.loadEp rfl ag_3 (i := 1) rfl (E rfl rfl) (fun hg => fr1)) ?_
          refine Y1 (Yv.addN_i64 rfl (E rfl rfl) (E rfl rfl) (fun hg => by omega)) ?_
          refine Y1 (Yv.nilChkEp rfl (E rfl rfl)) ?_
          refine Y1 (Yv.fieldEp rfl fo_87_1 (E rfl rfl)) ?_
          refine AWL.storeEp1 (i := 1) rfl rfl rfl ag_3 rfl (E rfl rfl) (E rfl rfl) rfl rfl (by rw [fr_len]; omega) ?_
          refine nl ?_
          refine AW.rseq ?_
          refine Y1 (Yv.assign rfl eV) ?_
          refine nl ?_
          refine AW.ret (retI (.tmp rfl .nil) ?_)
          rw [stepA_3 hok hm h13f]
          refine ⟨rfl, ?_⟩
          refine (List.sublist_append_left ([Ent.box s 80 (psC ps (.v (.slice (some ⟨g, 0, none⟩) n c))), Ent.row (some ⟨g, 0, none⟩) n c 87 7 (pre ++ frC (goF x1) a)] ++ frR (goF x1) a) [Ent.box b4 83 [.ep (.slice (some ⟨g, 0, none⟩) n c) pre.length], Ent.box b5 58 (insCells i), Ent.box b7 4 [bv (okS x.set (readsF i))], Ent.box b10 122 (hasCells (hasF i.kind))]).trans ?_
          rw [show goF x1 = { x1 with at_ := x1.at_ + 1 } from rfl, ← fr_jump]
          exact List.Sublist.refl _

theorem do32A (R : Int → Wd64 → Wd64 → Wd64) (s g n c : Nat) (ps : PS) (pre : List T) (x : Fr) (a : FA) (i : Ins) (hx : FrOk x) (hk : valK i.kind ∨ i.kind = 32) (ha : (hasF i.kind).a = true → 0 ≤ i.a ∧ i.a < (x.nr : Int)) (hb : (hasF i.kind).b = true → 0 ≤ i.b ∧ i.b < (x.nr : Int)) (hs : i.kind = 31 ∨ i.kind = 32 → 0 ≤ i.imm ∧ i.imm < (x.ns : Int)) (hR : i.kind = 16 → ACalls Try.prog 72 [zi i.real, zw (rA x i.a), zw (rA x i.b)] [] (fun t S => t = zw (R i.real (rA x i.a) (rA x i.b)))) (hd : (hasF i.kind).d = true → 0 ≤ i.d ∧ i.d < (x.nr : Int)) (hr : ∀ r ∈ readsF i, 0 ≤ r ∧ r < (x.nr : Int)) (hg : i.args.length ≤ 1048576) (hat : 0 ≤ x.at_ ∧ x.at_ ≤ 4611686018427387904) : ACalls Try.prog 32 [.v (.pointer (some ⟨s, 0, none⟩)), .ep (.slice (some ⟨g, 0, none⟩) n c) pre.length, .agg (insCells i)] ([Ent.box s 80 (psC ps (.v (.slice (some ⟨g, 0, none⟩) n c))), Ent.row (some ⟨g, 0, none⟩) n c 87 7 (pre ++ frC x a)] ++ frR x a) (fun t S => t = bv (stepA R ps.heap x i).isSome ∧ S = ([Ent.box s 80 (psC ps (.v (.slice (some ⟨g, 0, none⟩) n c))), Ent.row (some ⟨g, 0, none⟩) n c 87 7 (pre ++ frC ((stepA R ps.heap x i).getD x) a)] ++ frR ((stepA R ps.heap x i).getD x) a)) :=
  (do32A_ R s g n c ps pre x a i hx hk ha hb hs hR hd hr hg hat).less fun t S' ⟨h1, h2⟩ => ⟨_, h2, h1, rfl⟩
end Go.Proofs.Ytlfklgganokgdaa

namespace Go.Proofs.Ytlfklgganokgdaa
open Go Go.RowKit
set_option linter.unusedVariables false
set_option linter.unnecessarySimpa false
set_option linter.unusedSimpArgs false

theorem pmA0 {α : Type} {a0 a1 a2 a3 a4 a5 a6 a7 a8 : α} {Z : List α} : (a8 :: a6 :: a1 :: a4 :: a0 :: a2 :: a3 :: a5 :: a7 :: Z).Perm (a0 :: a1 :: a2 :: a3 :: a4 :: a5 :: a6 :: a7 :: a8 :: Z) :=
  ((((((((((((((((((((((List.Perm.refl _).cons a7)).cons a5)).cons a3)).cons a2)).cons a0)).cons a4)).trans (List.perm_middle (a := a4) (l₁ := [a0, a2, a3]) (l₂ := a5 :: a7 :: Z)).symm).cons a1)).trans (List.perm_middle (a := a1) (l₁ := [a0]) (l₂ := a2 :: a3 :: a4 :: a5 :: a7 :: Z)).symm).cons a6)).trans (List.perm_middle (a := a6) (l₁ := [a0, a1, a2, a3, a4, a5]) (l₂ := a7 :: Z)).symm).cons a8)).trans (List.perm_middle (a := a8) (l₁ := [a0, a1, a2, a3, a4, a5, a6, a7]) (l₂ := Z)).symm
theorem pmB0 {α : Type} {a0 a1 a2 a3 a4 a5 a6 a7 a8 : α} {Z : List α} : (a4 :: a2 :: a5 :: a6 :: a3 :: a7 :: a1 :: a8 :: a0 :: Z).Perm (a0 :: a1 :: a2 :: a3 :: a4 :: a5 :: a6 :: a7 :: a8 :: Z) :=
  ((((((((((((((((((((((((((List.Perm.refl _).cons a0)).cons a8)).trans (List.perm_middle (a := a8) (l₁ := [a0]) (l₂ := Z)).symm).cons a1)).trans (List.perm_middle (a := a1) (l₁ := [a0]) (l₂ := a8 :: Z)).symm).cons a7)).trans (List.perm_middle (a := a7) (l₁ := [a0, a1]) (l₂ := a8 :: Z)).symm).cons a3)).trans (List.perm_middle (a := a3) (l₁ := [a0, a1]) (l₂ := a7 :: a8 :: Z)).symm).cons a6)).trans (List.perm_middle (a := a6) (l₁ := [a0, a1, a3]) (l₂ := a7 :: a8 :: Z)).symm).cons a5)).trans (List.perm_middle (a := a5) (l₁ := [a0, a1, a3]) (l₂ := a6 :: a7 :: a8 :: Z)).symm).cons a2)).trans (List.perm_middle (a := a2) (l₁ := [a0, a1]) (l₂ := a3 :: a5 :: a6 :: a7 :: a8 :: Z)).symm).cons a4)).trans (List.perm_middle (a := a4) (l₁ := [a0, a1, a2, a3]) (l₂ := a5 :: a6 :: a7 :: a8 :: Z)).symm
set_option maxHeartbeats 16000000 in
theorem do32R1_ (s g c : Nat) (ps : PS) (x : Fr) (a : FA) (i : Ins) (hx : FrOk x) (hk : i.kind = 26) (ha : 0 ≤ i.a ∧ i.a < (x.nr : Int)) (hr : ∀ r ∈ readsF i, 0 ≤ r ∧ r < (x.nr : Int)) (hg : i.args.length ≤ 1048576) :
    ACalls Try.prog 32 [.v (.pointer (some ⟨s, 0, none⟩)), .ep (.slice (some ⟨g, 0, none⟩) 1 c) (([] : List T)).length, .agg (insCells i)] (([Ent.box s 80 (psC ps (.v (.slice (some ⟨g, 0, none⟩) 1 c))), Ent.row (some ⟨g, 0, none⟩) 1 c 87 7 (([] : List T) ++ frC x a)] ++ frR x a) ++ ([] : St)) (fun t S => t = bv (okS x.set (readsF i)) ∧ ([Ent.box s 80 (psC (if okS x.set (readsF i) = true then backP ps (rA x i.a) else ps) (.v (.slice (some ⟨g, 0, none⟩) 1 c))), Ent.row (some ⟨g, 0, none⟩) 1 c 87 7 (([] : List T) ++ frC x a)] ++ frR x a).Sublist S) := by
  refine ACalls.intro Try.func32 rfl Try.ntmps32 (Nat.le_of_ble_eq_true rfl) rfl fun X w0 => ?_
  refine AW.rseq ?_
  refine AWL.boxOp rfl rfl (B rfl) rfl (E rfl rfl) rfl (fun b4 => ?_)
  refine AWL.boxOp rfl rfl (B rfl) rfl (E rfl rfl) rfl (fun b5 => ?_)
  refine Y1 (Yv.assign rfl eV) ?_
  refine nl ?_
  refine AW.rseq ?_
  refine AWL.allocOp rfl rfl (B rfl) rfl zc_4 (fun b7 => ?_)
  refine AWL.storeBox (i := 8) rfl rfl rfl ag_4 rfl (E rfl rfl) (E rfl rfl) rfl rfl (Nat.le_of_ble_eq_true rfl) ?_
  refine nl ?_
  refine AW.rseq ?_
  refine Y1 (Yv.loadBoxA rfl ag_58 (i := 7) rfl (E rfl rfl) rfl rfl) ?_
  refine Y1 (Yv.makeFunc rfl evs0 rfl (evsC (E rfl rfl) (evsC (E rfl rfl) evs0)) rfl) ?_
  refine AWL.perm (S' := [Ent.box b7 4 [bv (true)], Ent.box b4 83 [.ep (.slice (some ⟨g, 0, none⟩) 1 c) (([] : List T)).length], Ent.row (some ⟨g, 0, none⟩) 1 c 87 7 (([] : List T) ++ frC x a), Ent.row a.t x.nr x.nr 4 1 (x.set.map bv)] ++ ([Ent.box s 80 (psC ps (.v (.slice (some ⟨g, 0, none⟩) 1 c))), Ent.row a.r x.nr x.nr 39 1 (x.r.map zw), Ent.row a.s x.ns x.ns 39 1 (x.slot.map zw), Ent.row a.h x.ns x.ns 4 1 (x.there.map bv), Ent.box b5 58 (insCells i)] ++ ([] : St))) pmA0 ?_
  refine C1 rfl ce_49 (E rfl rfl) (evsC (E rfl rfl) (evsC (E rfl rfl) evs0)) (S1 := [Ent.box b7 4 [bv (true)], Ent.box b4 83 [.ep (.slice (some ⟨g, 0, none⟩) 1 c) (([] : List T)).length], Ent.row (some ⟨g, 0, none⟩) 1 c 87 7 (([] : List T) ++ frC x a), Ent.row a.t x.nr x.nr 4 1 (x.set.map bv)]) (S2 := _) rfl (reads49 b7 b4 g 1 c ([] : List T) x a true i hx.t hg hr) ?_
  rintro t14 S14 ⟨rfl, rfl⟩
  refine AWL.perm (S' := ([Ent.box s 80 (psC ps (.v (.slice (some ⟨g, 0, none⟩) 1 c))), Ent.row (some ⟨g, 0, none⟩) 1 c 87 7 (([] : List T) ++ frC x a)] ++ frR x a) ++ ([Ent.box b4 83 [.ep (.slice (some ⟨g, 0, none⟩) 1 c) (([] : List T)).length], Ent.box b5 58 (insCells i), Ent.box b7 4 [bv (okS x.set (readsF i))]] ++ ([] : St))) pmB0 ?_
  refine nl ?_
  refine AW.seq ?_
  refine AW.rseq ?_
  refine Y1 (Yv.loadBox rfl ag_4 (i := 8) rfl (E rfl rfl) rfl) ?_
  refine Y1 (Yv.not rfl eV) ?_
  refine nl ?_
  refine AW.cond rfl (fun h0t => ?_) (fun h0f => ?_)
  ·
    try replace h0t := of_decide_eq_true h0t
    refine AW.rseq ?_
    refine Y1 (Yv.assign rfl eV) ?_
    refine nl ?_
    refine AW.ret (retI (.tmp rfl .nil) ?_)
    rw [show okS x.set (readsF i) = false by simpa using h0t]
    exact ⟨rfl, List.sublist_append_left _ _⟩
  ·
    try replace h0f := of_decide_eq_false h0f
    have hok : okS x.set (readsF i) = true := by simpa using h0f
    refine AW.skip ?_
    refine AW.rseq ?_
    refine Y1 (Yv.assign rfl eV) ?_
    refine Y1 (Yv.assign rfl eV) ?_
    refine nl ?_
    refine AW.seq ?_
    refine AW.rseq ?_
    refine Y1 (Yv.fieldBox rfl fo_58_0 eV) ?_
    refine Y1 (Yv.loadBox rfl ag_3 (i := 7) rfl (E rfl rfl) rfl) ?_
    refine nl ?_
    refine AW.block ?_
    refine AW.rseq ?_
    refine Y1 (Yv.eql rfl eV eV) ?_
    refine Y1 (Yv.assign rfl eV) ?_
    refine nl ?_
    refine AW.cond rfl (fun h1t => ?_) (fun h1f => ?_)
    ·
      try replace h1t := of_decide_eq_true h1t
      exfalso; omega
    ·
      try replace h1f := of_decide_eq_false h1f
      refine AW.rseq ?_
      refine Y1 (Yv.eql rfl eV eV) ?_
      refine Y1 (Yv.assign rfl eV) ?_
      refine nl ?_
      refine AW.cond rfl (fun h2t => ?_) (fun h2f => ?_)
      ·
        try replace h2t := of_decide_eq_true h2t
        exfalso; omega
      ·
        try replace h2f := of_decide_eq_false h2f
        refine AW.seq ?_
        refine AW.rseq ?_
        refine Y1 (Yv.eql rfl eV eV) ?_
        refine Y1 (Yv.assign rfl eV) ?_
        refine nl ?_
        refine AW.cond rfl (fun h3t => ?_) (fun h3f => ?_)
        ·
          try replace h3t := of_decide_eq_true h3t
          exfalso; omega
        ·
          try replace h3f := of_decide_eq_false h3f
          refine AW.rseq ?_
          refine Y1 (Yv.eql rfl eV eV) ?_
          refine Y1 (Yv.assign rfl eV) ?_
          refine nl ?_
          refine AW.cond rfl (fun h4t => ?_) (fun h4f => ?_)
          ·
            try replace h4t := of_decide_eq_true h4t
            exfalso; omega
          ·
            try replace h4f := of_decide_eq_false h4f
            refine AW.rseq ?_
            refine Y1 (Yv.eql rfl eV eV) ?_
            refine Y1 (Yv.assign rfl eV) ?_
            refine nl ?_
            refine AW.cond rfl (fun h5t => ?_) (fun h5f => ?_)
            ·
              try replace h5t := of_decide_eq_true h5t
              exfalso; omega
            ·
              try replace h5f := of_decide_eq_false h5f
              refine AW.rseq ?_
              refine Y1 (Yv.eql rfl eV eV) ?_
              refine Y1 (Yv.assign rfl eV) ?_
              refine nl ?_
              refine AW.cond rfl (fun h6t => ?_) (fun h6f => ?_)
              ·
                try replace h6t := of_decide_eq_true h6t
                exfalso; omega
              ·
                try replace h6f := of_decide_eq_false h6f
                refine AW.region ?_
                refine Y1 (Yv.eql rfl eV eV) ?_
                refine Y1 (Yv.assign rfl eV) ?_
                refine nl ?_
                refine AW.cond rfl (fun h7t => ?_) (fun h7f => ?_)
                ·
                  try replace h7t := of_decide_eq_true h7t
                  refine AW.rseq ?_
                  refine Y1 (Yv.move rfl eV) ?_
                  refine Y1 (Yv.loadBox rfl ag_83 (i := 6) rfl (E rfl rfl) rfl) ?_
                  refine Y1 (Yv.loadBoxA rfl ag_58 (i := 7) rfl (E rfl rfl) rfl rfl) ?_
                  refine C1 rfl ce_52 (E rfl rfl) (evsC (E rfl rfl) (evsC (E rfl rfl) (evsC (E rfl rfl) evs0))) (S1 := ([Ent.box s 80 (psC ps (.v (.slice (some ⟨g, 0, none⟩) 1 c))), Ent.row (some ⟨g, 0, none⟩) 1 c 87 7 (([] : List T) ++ frC x a)] ++ frR x a)) (S2 := _) rfl (jumpsRetOne s g c ps x a i hx hk ha) ?_
                  rintro t97 S97 ⟨rfl, rfl⟩
                  refine Y1 (Yv.assign rfl eV) ?_
                  refine nl ?_
                  refine AW.ret (retI (.tmp rfl .nil) ?_)
                  rw [hok]
                  exact ⟨rfl, List.sublist_append_left _ _⟩
                ·
                  try replace h7f := of_decide_eq_false h7f
                  exfalso; omega

theorem do32R1 (s g c : Nat) (ps : PS) (x : Fr) (a : FA) (i : Ins) (hx : FrOk x) (hk : i.kind = 26) (ha : 0 ≤ i.a ∧ i.a < (x.nr : Int)) (hr : ∀ r ∈ readsF i, 0 ≤ r ∧ r < (x.nr : Int)) (hg : i.args.length ≤ 1048576) : ACalls Try.prog 32 [.v (.pointer (some ⟨s, 0, none⟩)), .ep (.slice (some ⟨g, 0, none⟩) 1 c) 0, .agg (insCells i)] ([Ent.box s 80 (psC ps (.v (.slice (some ⟨g, 0, none⟩) 1 c))), Ent.row (some ⟨g, 0, none⟩) 1 c 87 7 (([] : List T) ++ frC x a)] ++ frR x a) (fun t S => t = bv (okS x.set (readsF i)) ∧ S = ([Ent.box s 80 (psC (if okS x.set (readsF i) = true then backP ps (rA x i.a) else ps) (.v (.slice (some ⟨g, 0, none⟩) 1 c))), Ent.row (some ⟨g, 0, none⟩) 1 c 87 7 (([] : List T) ++ frC x a)] ++ frR x a)) :=
  (do32R1_ s g c ps x a i hx hk ha hr hg).less fun t S' ⟨h1, h2⟩ => ⟨_, h2, h1, rfl⟩
end Go.Proofs.Ytlfklgganokgdaa

namespace Go.Proofs.Ytlfklgganokgdaa
open Go Go.RowKit
set_option linter.unusedSimpArgs false
set_option linter.unusedVariables false
/-- An instruction that a function of nr registers and ns slots may have at place j of n, and that only reckons or returns. -/
structure InA (nr ns n j : Nat) (i : Ins) : Prop where
  kind : (i.kind = 19 ∨ valK i.kind ∨ i.kind = 32) ∧ j + 1 < n ∨ i.kind = 26
  real : i.kind ≠ 16
  args : i.args.length ≤ 1048576
  a : (hasF i.kind).a = true → 0 ≤ i.a ∧ i.a < (nr : Int)
  b : (hasF i.kind).b = true → 0 ≤ i.b ∧ i.b < (nr : Int)
  d : (hasF i.kind).d = true → 0 ≤ i.d ∧ i.d < (nr : Int)
  slot : i.kind = 31 ∨ i.kind = 32 → 0 ≤ i.imm ∧ i.imm < (ns : Int)
  rd : ∀ r ∈ readsF i, 0 ≤ r ∧ r < (nr : Int)
def R0 : Int → Wd64 → Wd64 → Wd64 := fun _ _ _ => 0#64
def stepR (ps : PS) (x : Fr) (i : Ins) : Option (PS × Fr) :=
  if i.kind = 26 then (if okS x.set (readsF i) = true then some (backP ps (rA x i.a), x) else none)
  else (stepA R0 ps.heap x i).map fun y => (ps, y)
def runF (L : List Ins) : Nat → Int → PS → Fr → PS × Fr
  | 0, _, ps, x => (ps, x)
  | n + 1, f, ps, x =>
    if 0 < f ∧ ps.st = 0 then
      (if (L.getD x.at_.toNat default).kind = 19 then runF L n f ps (goF x)
      else match stepR ps x (L.getD x.at_.toNat default) with
        | none => ({ ps with st := 2 }, x)
        | some q => runF L n (f - 1) { q.1 with steps := q.1.steps + 1 } q.2)
    else (ps, x)
section
variable {L : List Ins} {n : Nat} {f : Int} {ps : PS} {x : Fr}
theorem run_end (h : ¬ (0 < f ∧ ps.st = 0)) : runF L n f ps x = (ps, x) := by
  cases n with
  | zero => rfl
  | succ n => rw [runF, if_neg h]
theorem run_label (h : 0 < f ∧ ps.st = 0) (hk : (L.getD x.at_.toNat default).kind = 19) : runF L (n + 1) f ps x = runF L n f ps (goF x) := by rw [runF, if_pos h, if_pos hk]
theorem run_stuck (h : 0 < f ∧ ps.st = 0) (hk : ¬ (L.getD x.at_.toNat default).kind = 19) (hs : stepR ps x (L.getD x.at_.toNat default) = none) : runF L (n + 1) f ps x = ({ ps with st := 2 }, x) := by rw [runF, if_pos h, if_neg hk, hs]
theorem run_step (h : 0 < f ∧ ps.st = 0) (hk : ¬ (L.getD x.at_.toNat default).kind = 19) {q : PS × Fr} (hs : stepR ps x (L.getD x.at_.toNat default) = some q) : runF L (n + 1) f ps x = runF L n (f - 1) { q.1 with steps := q.1.steps + 1 } q.2 := by rw [runF, if_pos h, if_neg hk, hs]
end
/-- What a run keeps. -/
structure RA (p : Prog) (fi nr ns n : Nat) (ps : PS) (x : Fr) : Prop where
  prog : ps.prog = p
  f : x.f = (fi : Int)
  nr : x.nr = nr
  ns : x.ns = ns
  ok : FrOk x
  at0 : 0 ≤ x.at_
  at1 : x.at_.toNat < n
theorem stepA_keeps {R : Int → Wd64 → Wd64 → Wd64} {heap : Wd64} {x x' : Fr} {i : Ins} (h : stepA R heap x i = some x') (hx : FrOk x) : FrOk x' ∧ x'.nr = x.nr ∧ x'.ns = x.ns ∧ x'.f = x.f ∧ x'.at_ = x.at_ + 1 := by
  unfold stepA at h
  split at h
  · cases h
  · split at h
    · cases h; exact ⟨goF_ok (putF_ok hx i), rfl, rfl, rfl, rfl⟩
    · split at h
      · cases h; exact ⟨goF_ok (setD_ok hx _ _), rfl, rfl, rfl, rfl⟩
      · cases h
theorem back_prog (ps : PS) (v : Wd64) : (backP ps v).prog = ps.prog ∧ (backP ps v).steps = ps.steps ∧ (backP ps v).st ≠ 0 := by
  unfold backP; split <;> exact ⟨rfl, rfl, by simp⟩
/-! ### a new process -/
def mapT (b : Nat) : T := .v (.map (some b))
def mapsE (bs : List Nat) (fs : List Fn) : St := (bs.zip fs).map fun q => .map q.1 (lmT (whL q.2.code))
theorem mapsE_succ {bs : List Nat} {fs : List Fn} {j b : Nat} (h : j < fs.length) (hb : bs.length = j) : mapsE (bs ++ [b]) (fs.take (j + 1)) = mapsE bs (fs.take j) ++ [.map b (lmT (whL (fs.getD j default).code))] := by
  unfold mapsE
  rw [take_gd h, List.zip_append (by rw [hb, List.length_take]; omega), List.map_append]
  rfl
def psN (p : Prog) (lab : T) (heap : Wd64) (strict : Bool) (w pg : T) : PS := ⟨p, lab, heap, strict, w, pg, false, 0, 0#64, 0, 0⟩
/-! ### the program that the law knows -/
def psL (wv pg lab : T) : PS := ⟨little, lab, 65536#64, true, wv, pg, false, 0, 0#64, 0, 0⟩
def frL : Fr := openFr (little.funs.getD 0 default) 0 [] 0
def codeL : List Ins := (little.funs.getD 0 default).code
theorem littleA : ∀ j, j < codeL.length → InA 3 0 codeL.length j (codeL.getD j default) := by
  intro j hj
  have : j = 0 ∨ j = 1 ∨ j = 2 ∨ j = 3 := by
    have : codeL.length = 4 := rfl
    omega
  rcases this with rfl | rfl | rfl | rfl
  · exact ⟨.inl ⟨.inr (.inl (.inl ⟨by decide, by decide⟩)), by decide⟩, by decide, by decide, by decide, by decide, by decide, by decide, by decide⟩
  · exact ⟨.inl ⟨.inr (.inl (.inl ⟨by decide, by decide⟩)), by decide⟩, by decide, by decide, by decide, by decide, by decide, by decide, by decide⟩
  · exact ⟨.inl ⟨.inr (.inl (.inl ⟨by decide, by decide⟩)), by decide⟩, by decide, by decide, by decide, by decide, by decide, by decide, by decide⟩
  · exact ⟨.inr rfl, by decide, by decide, by decide, by decide, by decide, by decide, by decide⟩
def famL : Fam := [some [false, false, false], some [true, false, false], some [true, true, false], some [true, true, true]]
theorem little_strict : checkR little = 0 ∧ ∀ f ∈ little.funs, StrictF f := by
  refine ⟨by kernel_rfl, fun g hg => ?_⟩
  cases List.mem_singleton.1 hg
  refine ⟨famL, ⟨rfl, fun k a h => ?_, ⟨_, rfl, leB.refl _⟩, fun k a hk h l hl => ?_⟩, fun k a hk h => ?_⟩
  · have : k = 0 ∨ k = 1 ∨ k = 2 ∨ k = 3 ∨ 4 ≤ k := by omega
    rcases this with rfl | rfl | rfl | rfl | h4
    · cases h; rfl
    · cases h; rfl
    · cases h; rfl
    · cases h; rfl
    · exfalso
      unfold famAt famL at h
      simp only [List.getD_eq_getElem?_getD] at h
      rw [List.getElem?_eq_none (by simpa using h4)] at h
      cases h
  · have hk' : k < 4 := hk
    have : k = 0 ∨ k = 1 ∨ k = 2 ∨ k = 3 := by omega
    rcases this with rfl | rfl | rfl | rfl
    · cases h
      have hl' : l ∈ [(1 : Int)] := hl
      rw [List.mem_singleton] at hl'
      subst hl'; exact leB.refl _
    · cases h
      have hl' : l ∈ [(2 : Int)] := hl
      rw [List.mem_singleton] at hl'
      subst hl'; exact leB.refl _
    · cases h
      have hl' : l ∈ [(3 : Int)] := hl
      rw [List.mem_singleton] at hl'
      subst hl'; exact leB.refl _
    · cases h
      have hl' : l ∈ ([] : List Int) := hl
      cases hl'
  · have hk' : k < 4 := hk
    have : k = 0 ∨ k = 1 ∨ k = 2 ∨ k = 3 := by omega
    rcases this with rfl | rfl | rfl | rfl <;> (cases h; rfl)
def ps1 (wv pg lab : T) : PS := (runF codeL 100 3 (psL wv pg lab) frL).1
def fr1L (wv pg lab : T) : Fr := (runF codeL 100 3 (psL wv pg lab) frL).2
def ps2 (wv pg lab : T) : PS := (runF codeL 100 9 (ps1 wv pg lab) (fr1L wv pg lab)).1
def fr2L (wv pg lab : T) : Fr := (runF codeL 100 9 (ps1 wv pg lab) (fr1L wv pg lab)).2
theorem ps1_eq (wv pg lab : T) : (runF codeL 100 3 (psL wv pg lab) frL).1 = ps1 wv pg lab := by unfold ps1; rfl
theorem fr1_eq (wv pg lab : T) : (runF codeL 100 3 (psL wv pg lab) frL).2 = fr1L wv pg lab := by unfold fr1L; rfl
theorem ps2_eq (wv pg lab : T) : (runF codeL 100 9 (ps1 wv pg lab) (fr1L wv pg lab)).1 = ps2 wv pg lab := by unfold ps2; rfl
theorem fr2_eq (wv pg lab : T) : (runF codeL 100 9 (ps1 wv pg lab) (fr1L wv pg lab)).2 = fr2L wv pg lab := by unfold fr2L; rfl
theorem ra0 (wv pg lab : T) : RA little 0 3 0 codeL.length (psL wv pg lab) frL := ⟨rfl, rfl, rfl, rfl, ⟨rfl, rfl, rfl, rfl⟩, by decide, by decide⟩
theorem ra1_at (wv pg lab : T) : (fr1L wv pg lab).at_ = 3 := by kernel_rfl
theorem ra1 (wv pg lab : T) : RA little 0 3 0 codeL.length (ps1 wv pg lab) (fr1L wv pg lab) :=
  ⟨by kernel_rfl, by kernel_rfl, by kernel_rfl, by kernel_rfl, ⟨by kernel_rfl, by kernel_rfl, by kernel_rfl, by kernel_rfl⟩, by rw [ra1_at]; decide, by rw [ra1_at]; decide⟩
theorem ps1_st (wv pg lab : T) : (ps1 wv pg lab).st = 0 := by kernel_rfl
theorem ps1_steps (wv pg lab : T) : (ps1 wv pg lab).steps = 3 := by kernel_rfl
theorem ps2_st (wv pg lab : T) : (ps2 wv pg lab).st = 1 := by kernel_rfl
theorem ps2_steps (wv pg lab : T) : (ps2 wv pg lab).steps = 4 := by kernel_rfl
theorem ps2_code (wv pg lab : T) : (ps2 wv pg lab).code = 254 := by kernel_rfl
def emptyP : Prog := ⟨[], [], 0⟩
theorem empty_in : ProgIn emptyP := ⟨by decide, by decide, fun f hf => (by cases hf), by decide, by decide, by decide⟩
theorem empty_check : checkW emptyP = 130 := by kernel_rfl
theorem little_check : checkW little = 0 := by kernel_rfl
end Go.Proofs.Ytlfklgganokgdaa

namespace Go.Proofs.Ytlfklgganokgdaa
open Go Go.RowKit
set_option linter.unusedVariables false
set_option linter.unnecessarySimpa false
set_option linter.unusedSimpArgs false

theorem do32N (s g c : Nat) (ps : PS) (x : Fr) (a : FA) (i : Ins) (len j : Nat) (hi : InA x.nr x.ns len j i) (h19 : i.kind ≠ 19) (hx : FrOk x) (hat : 0 ≤ x.at_ ∧ x.at_ ≤ 4611686018427387904) : ACalls Try.prog 32 [.v (.pointer (some ⟨s, 0, none⟩)), .ep (.slice (some ⟨g, 0, none⟩) 1 c) 0, .agg (insCells i)] ([Ent.box s 80 (psC ps (.v (.slice (some ⟨g, 0, none⟩) 1 c))), Ent.row (some ⟨g, 0, none⟩) 1 c 87 7 (([] : List T) ++ frC x a)] ++ frR x a) (fun t S => ∃ q : PS × Fr, t = bv (stepR ps x i).isSome ∧ q = (stepR ps x i).getD (ps, x) ∧ S = ([Ent.box s 80 (psC q.1 (.v (.slice (some ⟨g, 0, none⟩) 1 c))), Ent.row (some ⟨g, 0, none⟩) 1 c 87 7 (([] : List T) ++ frC q.2 a)] ++ frR q.2 a)) := by
  by_cases hk : i.kind = 26
  · refine (do32R1 s g c ps x a i hx hk (hi.a (by rw [hk]; rfl)) hi.rd hi.args).mono fun t S h => ?_
    obtain ⟨h1, h2⟩ := h
    refine ⟨_, ?_, rfl, ?_⟩
    · rw [h1, stepR, if_pos hk]
      cases okS x.set (readsF i) <;> rfl
    · rw [h2, stepR, if_pos hk]
      cases okS x.set (readsF i) <;> rfl
  · have hv : valK i.kind ∨ i.kind = 32 := by
      rcases hi.kind with ⟨h | h | h, _⟩ | h
      · exact absurd h h19
      · exact .inl h
      · exact .inr h
      · exact absurd h hk
    refine (do32A R0 s g 1 c ps [] x a i hx hv hi.a hi.b hi.slot (fun h => absurd h hi.real) hi.d hi.rd hi.args hat).mono fun t S h => ?_
    obtain ⟨h1, h2⟩ := h
    refine ⟨_, ?_, rfl, ?_⟩
    · rw [h1, stepR, if_neg hk]
      cases stepA R0 ps.heap x i <;> rfl
    · rw [h2, stepR, if_neg hk]
      cases stepA R0 ps.heap x i <;> rfl
theorem stepR_keeps {ps : PS} {x : Fr} {i : Ins} {len j : Nat} {q : PS × Fr} (hi : InA x.nr x.ns len j i) (h19 : i.kind ≠ 19) (hx : FrOk x) (h : stepR ps x i = some q) : q.1.prog = ps.prog ∧ q.1.steps = ps.steps ∧ FrOk q.2 ∧ q.2.nr = x.nr ∧ q.2.ns = x.ns ∧ q.2.f = x.f ∧ (q.2.at_ = x.at_ ∨ q.2.at_ = x.at_ + 1 ∧ j + 1 < len) := by
  unfold stepR at h
  split at h
  · split at h
    · cases h
      obtain ⟨h1, h2, _⟩ := back_prog ps (rA x i.a)
      exact ⟨h1, h2, hx, rfl, rfl, rfl, .inl rfl⟩
    · cases h
  · rename_i hk
    cases hs : stepA R0 ps.heap x i with
    | none => rw [hs] at h; cases h
    | some y =>
      rw [hs] at h; cases h
      obtain ⟨h1, h2, h3, h4, h5⟩ := stepA_keeps hs hx
      refine ⟨rfl, rfl, h1, h2, h3, h4, .inr ⟨h5, ?_⟩⟩
      rcases hi.kind with ⟨_, h⟩ | h
      · exact h
      · exact absurd h hk
set_option maxHeartbeats 16000000 in
theorem Run15A (s g c : Nat) (ps0 : PS) (x0 : Fr) (a : FA) (f0 : Int) (p : Prog) (fi nr ns : Nat) (L : List Ins) (G : Nat) (hfi : fi < p.funs.length) (hL : (p.funs.getD fi default).code = L) (hLb : L.length ≤ 1048576) (hin : ∀ j, j < L.length → InA nr ns L.length j (L.getD j default)) (hra : RA p fi nr ns L.length ps0 x0) (hb : f0 ≤ 4611686018427387904 ∧ 0 ≤ ps0.steps ∧ ps0.steps + f0 ≤ 4611686018427387904) (hG : f0.toNat * (L.length + 1) + (L.length - x0.at_.toNat) < G) :
    ACalls Try.prog 15 [.v (.pointer (some ⟨s, 0, none⟩)), zi f0] ([Ent.box s 80 (psC ps0 (.v (.slice (some ⟨g, 0, none⟩) 1 c))), Ent.row (some ⟨g, 0, none⟩) 1 c 87 7 (([] : List T) ++ frC x0 a)] ++ frR x0 a) (fun t S => t = zi (runF L G f0 ps0 x0).1.st ∧ S = ([Ent.box s 80 (psC (runF L G f0 ps0 x0).1 (.v (.slice (some ⟨g, 0, none⟩) 1 c))), Ent.row (some ⟨g, 0, none⟩) 1 c 87 7 (([] : List T) ++ frC (runF L G f0 ps0 x0).2 a)] ++ frR (runF L G f0 ps0 x0).2 a)) := by
  refine ACalls.intro Try.func15 rfl Try.ntmps15 (Nat.le_of_ble_eq_true rfl) rfl fun X w0 => ?_
  refine AW.rseq ?_
  refine Y1 (Yv.assign rfl eV) ?_
  refine nl ?_
  refine AW.seq ?_
  refine AW.rseq ?_
  refine Y1 (Yv.move rfl eV) ?_
  refine Y1 (Yv.eqlNilP rfl pn_36 (E rfl rfl)) ?_
  refine nl ?_
  refine AW.cond rfl (fun h0t => ?_) (fun h0f => ?_)
  ·
    try replace h0t := of_decide_eq_true h0t
    cases h0t
  ·
    try replace h0f := of_decide_eq_false h0f
    refine AW.skip ?_
    refine AW.seq ?_
    refine AW.block ?_
    refine AW.loop4 (fun (m : Nat) (f : Int) (ps : PS) (x : Fr) => [(0, true, .v (.pointer (some ⟨s, 0, none⟩))), (1, true, zi f)]) (fun (m : Nat) (f : Int) (ps : PS) (x : Fr) => ([Ent.box s 80 (psC ps (.v (.slice (some ⟨g, 0, none⟩) 1 c))), Ent.row (some ⟨g, 0, none⟩) 1 c 87 7 (([] : List T) ++ frC x a)] ++ frR x a)) (fun (m : Nat) (f : Int) (ps : PS) (x : Fr) => RA p fi nr ns L.length ps x ∧ (f ≤ 4611686018427387904 ∧ 0 ≤ ps.steps ∧ ps.steps + f ≤ 4611686018427387904) ∧ f.toNat * (L.length + 1) + (L.length - x.at_.toNat) < m ∧ runF L m f ps x = runF L G f0 ps0 x0) (fun (m : Nat) (f : Int) (ps : PS) (x : Fr) => m) G f0 ps0 x0 ?_ ?_ ?_ ?_
    · exact ⟨hra, hb, hG, rfl⟩
    · exact (Sub.cons rfl rfl (Sub.cons rfl rfl Sub.nil))
    · rfl
    ·
      intro m f ps x hinv
      obtain ⟨⟨hpr, hxf, hnr, hns, hok, hat0, hat1⟩, ⟨hb1, hb2, hb3⟩, hms, hrun⟩ := hinv
      have hfl : fi < ps.prog.funs.length := by rw [hpr]; exact hfi
      have hcl : (ps.prog.funs.getD fi default).code = L := by rw [hpr]; exact hL
      have hcn : (ps.prog.funs.getD fi default).code.length = L.length := by rw [hcl]
      have hI : ((ps.prog.funs.getD fi default).code.getD x.at_.toNat default) = L.getD x.at_.toNat default := by rw [hcl]
      refine AW.seq ?_
      refine AW.rseq ?_
      refine Y1 (Yv.move rfl eV) ?_
      refine Y1 (Yv.gtr rfl eV eV) ?_
      refine Y1 (Yv.move rfl eV) ?_
      refine AWL.ygT rfl rfl rfl rfl (B rfl) (Yv.move rfl (E rfl rfl)) ?_
      refine AWL.ygT rfl rfl rfl rfl (B rfl) (Yv.nilChk rfl (Eg rfl rfl id)) ?_
      refine AWL.ygT rfl rfl rfl rfl (B rfl) (Yv.fieldBox rfl fo_80_8 (Eg rfl rfl id)) ?_
      refine AWL.ygT rfl rfl rfl rfl (B rfl) (Yv.loadBox rfl ag_3 (i := 0) rfl (Eg rfl rfl id) rfl) ?_
      refine AWL.ygT rfl rfl rfl rfl (B rfl) (Yv.eql rfl (Eg rfl rfl id) (E rfl rfl)) ?_
      refine Y1 (Yv.pickAnd rfl (E rfl rfl) (Eg rfl rfl id)) ?_
      refine nl ?_
      refine AW.cond rfl (fun h1t => ?_) (fun h1f => ?_)
      ·
        try replace h1t := of_decide_eq_true h1t
        have hgo : 0 < f ∧ ps.st = 0 := by simpa using h1t
        refine AW.skip ?_
        refine AW.block ?_
        refine AW.rseqQ rfl (by kernel_rfl) ?_
        refine AWQ.y rfl rfl (B rfl) (Yv.move rfl (E rfl rfl)) ?_
        refine AWQ.y rfl rfl (B rfl) (Yv.nilChk rfl (E rfl rfl)) ?_
        refine AWQ.y rfl rfl (B rfl) (Yv.fieldBox rfl fo_80_6 (E rfl rfl)) ?_
        refine AWQ.y rfl rfl (B rfl) (Yv.loadBox rfl ag_78 (i := 0) rfl (E rfl rfl) rfl) ?_
        refine AWQ.y rfl rfl (B rfl) (Yv.move rfl (E rfl rfl)) ?_
        refine AWQ.y rfl rfl (B rfl) (Yv.nilChk rfl (E rfl rfl)) ?_
        refine AWQ.y rfl rfl (B rfl) (Yv.fieldBox rfl fo_80_6 (E rfl rfl)) ?_
        refine AWQ.y rfl rfl (B rfl) (Yv.loadBox rfl ag_78 (i := 0) rfl (E rfl rfl) rfl) ?_
        refine AWQ.y rfl rfl (B rfl) (Yv.lenV rfl so_78 (E rfl rfl)) ?_
        refine AWQ.y rfl rfl (B rfl) (Yv.subN_i64 rfl (E rfl rfl) (E rfl rfl) (fun hg => by omega)) ?_
        refine AWQ.y rfl rfl (B rfl) (Yv.indexRow (j := 0) rfl ss_78 (i := 1) rfl (E rfl rfl) (E rfl rfl) (fun hg => ⟨by omega, by omega⟩)) ?_
        refine AWQ.y rfl rfl (B rfl) (Yv.assign rfl (E rfl rfl)) ?_
        refine AWQ.nil ?_
        refine AW.mid (α := Nat) (fun b6 => [(0, true, .v (.pointer (some ⟨s, 0, none⟩))), (1, true, zi f), (5, true, .ep (.slice (some ⟨g, 0, none⟩) 1 c) 0), (6, true, .v (.pointer (some ⟨b6, 0, none⟩)))]) (fun b6 => ([Ent.box s 80 (psC ps (.v (.slice (some ⟨g, 0, none⟩) 1 c))), Ent.row (some ⟨g, 0, none⟩) 1 c 87 7 (([] : List T) ++ frC x a)] ++ frR x a) ++ [.box b6 58 (insCells ((ps.prog.funs.getD fi default).code.getD x.at_.toNat default))]) (fun _ => True) ?_ ?_
        ·
          refine AW.regionH (HeldCs [(g, 0, Value.int .i64 x.f), (g, 1, Value.int .i64 x.at_)]) rfl (tells_cs (tcR 1 rfl rfl pinV (tcR 1 rfl rfl pinV tc0))) ?_
          refine AWH.take (i := 0) rfl (by kernel_rfl) (by kernel_rfl) (by kernel_rfl) rfl rfl (B rfl) (heldAll (freeMove rfl (E rfl rfl))) ?_
          refine AWH.take (i := 1) rfl (by kernel_rfl) (by kernel_rfl) (by kernel_rfl) rfl rfl (B rfl) (heldAll (freeNil rfl (E rfl rfl))) ?_
          refine AWH.take (i := 2) rfl (by kernel_rfl) (by kernel_rfl) (by kernel_rfl) rfl rfl (B rfl) (heldAll (freeField rfl fo_80_0 (E rfl rfl))) ?_
          refine AWH.take (i := 3) rfl (by kernel_rfl) (by kernel_rfl) (by kernel_rfl) rfl rfl (B rfl) (heldAll (freeField rfl fo_25_0 (E rfl rfl))) ?_
          refine AWH.take (i := 5) rfl (by kernel_rfl) (by kernel_rfl) (by kernel_rfl) rfl rfl (B rfl) (heldAll (freeMove rfl (E rfl rfl))) ?_
          refine AWH.take (i := 6) rfl (by kernel_rfl) (by kernel_rfl) (by kernel_rfl) rfl rfl (B rfl) (heldAll (freeNilEp rfl (E rfl rfl))) ?_
          refine AWH.take (i := 7) rfl (by kernel_rfl) (by kernel_rfl) (by kernel_rfl) rfl rfl (B rfl) (heldAll (freeFieldEp rfl fo_87_0 (E rfl rfl))) ?_
          refine AWH.take (i := 8) rfl (by kernel_rfl) (by kernel_rfl) (by kernel_rfl) rfl rfl (B rfl) (heldE 0 rfl ag_3 (E rfl rfl) rfl (fun _ _ => .v _)) ?_
          refine AWH.take (i := 12) rfl (by kernel_rfl) (by kernel_rfl) (by kernel_rfl) rfl rfl (B rfl) (heldAll (freeMove rfl (E rfl rfl))) ?_
          refine AWH.take (i := 13) rfl (by kernel_rfl) (by kernel_rfl) (by kernel_rfl) rfl rfl (B rfl) (heldAll (freeNilEp rfl (E rfl rfl))) ?_
          refine AWH.take (i := 14) rfl (by kernel_rfl) (by kernel_rfl) (by kernel_rfl) rfl rfl (B rfl) (heldAll (freeFieldEp rfl fo_87_1 (E rfl rfl))) ?_
          refine AWH.take (i := 15) rfl (by kernel_rfl) (by kernel_rfl) (by kernel_rfl) rfl rfl (B rfl) (heldE 1 rfl ag_3 (E rfl rfl) rfl (fun _ _ => .v _)) ?_
          refine AWH.two (i := 4) (j := 18) (by kernel_rfl) rfl rfl ?_ ?_
          ·
            refine Y1 (Yv.loadBox rfl ag_22 (i := 0) rfl (E rfl rfl) rfl) ?_
            refine AWL.nil (kpH (tcR 1 rfl rfl pinV (tcR 1 rfl rfl pinV tc0)) ?_)
            refine AWH.take (i := 9) rfl (by kernel_rfl) (by kernel_rfl) (by kernel_rfl) rfl rfl (B rfl) (heldAll (freeIdxSl (j := fi) rfl ss_22 (B rfl) (E rfl rfl) (E rfl rfl) ⟨hxf, by rw [len_funs]; omega⟩)) ?_
            refine AWH.take (i := 10) rfl (by kernel_rfl) (by kernel_rfl) (by kernel_rfl) rfl rfl (B rfl) (heldAll (freeFieldRp rfl fo_51_4 (E rfl rfl))) ?_
            refine AWH.two (i := 11) (j := 18) (by kernel_rfl) rfl rfl ?_ ?_
            ·
              refine Y1 (Yv.loadRp rfl ag_49 (E rfl rfl) (fun hg => fcode_at (by omega))) ?_
              refine AWL.nil (kpH (tcR 1 rfl rfl pinV (tcR 1 rfl rfl pinV tc0)) ?_)
              refine AWH.take (i := 16) rfl (by kernel_rfl) (by kernel_rfl) (by kernel_rfl) rfl rfl (B rfl) (heldAll (freeIdxSl (j := x.at_.toNat) rfl ss_49 (B rfl) (E rfl rfl) (E rfl rfl) ⟨(Int.toNat_of_nonneg hat0).symm, by rw [len_code]; omega⟩)) ?_
              refine AWH.two (i := 17) (j := 18) (by kernel_rfl) rfl rfl ?_ ?_
              ·
                refine Y1 (Yv.loadRpA rfl ag_58 (E rfl rfl) (fun hg => ins_cells (by omega))) ?_
                refine AWL.nil (kpH (tcR 1 rfl rfl pinV (tcR 1 rfl rfl pinV tc0)) ?_)
                refine AWH.one (i := 18) (by kernel_rfl) rfl ?_
                refine AWL.allocOp rfl rfl (B rfl) rfl zc_58 (fun b6 => ?_)
                refine AWL.nil (kpH (tcR 1 rfl rfl pinV (tcR 1 rfl rfl pinV tc0)) ?_)
                refine AWH.one (i := 19) (by kernel_rfl) rfl ?_
                refine AWL.storeBox (i := 6) rfl rfl rfl ag_58 rfl (E rfl rfl) (E rfl rfl) rfl rfl (Nat.le_of_ble_eq_true rfl) ?_
                refine AWL.nil (kpH (tcR 1 rfl rfl pinV (tcR 1 rfl rfl pinV tc0)) ?_)
                refine AWH.done (by kernel_rfl) ?_
                exact ⟨b6, trivial, (Sub.cons rfl rfl (Sub.cons rfl rfl (Sub.cons rfl rfl (Sub.cons rfl rfl Sub.nil)))), rfl⟩
              ·
                refine AWL.allocOp rfl rfl (B rfl) rfl zc_58 (fun b6 => ?_)
                refine AWL.nil (kpH (tcR 1 rfl rfl pinV (tcR 1 rfl rfl pinV tc0)) ?_)
                refine AWH.one (i := 17) (by kernel_rfl) rfl ?_
                refine Y1 (Yv.loadRpA rfl ag_58 (E rfl rfl) (fun hg => ins_cells (by omega))) ?_
                refine AWL.nil (kpH (tcR 1 rfl rfl pinV (tcR 1 rfl rfl pinV tc0)) ?_)
                refine AWH.one (i := 19) (by kernel_rfl) rfl ?_
                refine AWL.storeBox (i := 6) rfl rfl rfl ag_58 rfl (E rfl rfl) (E rfl rfl) rfl rfl (Nat.le_of_ble_eq_true rfl) ?_
                refine AWL.nil (kpH (tcR 1 rfl rfl pinV (tcR 1 rfl rfl pinV tc0)) ?_)
                refine AWH.done (by kernel_rfl) ?_
                exact ⟨b6, trivial, (Sub.cons rfl rfl (Sub.cons rfl rfl (Sub.cons rfl rfl (Sub.cons rfl rfl Sub.nil)))), rfl⟩
            ·
              refine AWL.allocOp rfl rfl (B rfl) rfl zc_58 (fun b6 => ?_)
              refine AWL.nil (kpH (tcR 1 rfl rfl pinV (tcR 1 rfl rfl pinV tc0)) ?_)
              refine AWH.one (i := 11) (by kernel_rfl) rfl ?_
              refine Y1 (Yv.loadRp rfl ag_49 (E rfl rfl) (fun hg => fcode_at (by omega))) ?_
              refine AWL.nil (kpH (tcR 1 rfl rfl pinV (tcR 1 rfl rfl pinV tc0)) ?_)
              refine AWH.one (i := 16) (by kernel_rfl) rfl ?_
              refine Y1 (Yv.indexSl (j := x.at_.toNat) rfl ss_49 (B rfl) (E rfl rfl) (E rfl rfl) (fun hg => ⟨(Int.toNat_of_nonneg hat0).symm, by rw [len_code]; omega⟩)) ?_
              refine AWL.nil (kpH (tcR 1 rfl rfl pinV (tcR 1 rfl rfl pinV tc0)) ?_)
              refine AWH.one (i := 17) (by kernel_rfl) rfl ?_
              refine Y1 (Yv.loadRpA rfl ag_58 (E rfl rfl) (fun hg => ins_cells (by omega))) ?_
              refine AWL.nil (kpH (tcR 1 rfl rfl pinV (tcR 1 rfl rfl pinV tc0)) ?_)
              refine AWH.one (i := 19) (by kernel_rfl) rfl ?_
              refine AWL.storeBox (i := 6) rfl rfl rfl ag_58 rfl (E rfl rfl) (E rfl rfl) rfl rfl (Nat.le_of_ble_eq_true rfl) ?_
              refine AWL.nil (kpH (tcR 1 rfl rfl pinV (tcR 1 rfl rfl pinV tc0)) ?_)
              refine AWH.done (by kernel_rfl) ?_
              exact ⟨b6, trivial, (Sub.cons rfl rfl (Sub.cons rfl rfl (Sub.cons rfl rfl (Sub.cons rfl rfl Sub.nil)))), rfl⟩
          ·
            refine AWL.allocOp rfl rfl (B rfl) rfl zc_58 (fun b6 => ?_)
            refine AWL.nil (kpH (tcR 1 rfl rfl pinV (tcR 1 rfl rfl pinV tc0)) ?_)
            refine AWH.one (i := 4) (by kernel_rfl) rfl ?_
            refine Y1 (Yv.loadBox rfl ag_22 (i := 0) rfl (E rfl rfl) rfl) ?_
            refine AWL.nil (kpH (tcR 1 rfl rfl pinV (tcR 1 rfl rfl pinV tc0)) ?_)
            refine AWH.one (i := 9) (by kernel_rfl) rfl ?_
            refine Y1 (Yv.indexSl (j := fi) rfl ss_22 (B rfl) (E rfl rfl) (E rfl rfl) (fun hg => ⟨hxf, by rw [len_funs]; omega⟩)) ?_
            refine AWL.nil (kpH (tcR 1 rfl rfl pinV (tcR 1 rfl rfl pinV tc0)) ?_)
            refine AWH.one (i := 10) (by kernel_rfl) rfl ?_
            refine Y1 (Yv.fieldRp rfl fo_51_4 (E rfl rfl)) ?_
            refine AWL.nil (kpH (tcR 1 rfl rfl pinV (tcR 1 rfl rfl pinV tc0)) ?_)
            refine AWH.one (i := 11) (by kernel_rfl) rfl ?_
            refine Y1 (Yv.loadRp rfl ag_49 (E rfl rfl) (fun hg => fcode_at (by omega))) ?_
            refine AWL.nil (kpH (tcR 1 rfl rfl pinV (tcR 1 rfl rfl pinV tc0)) ?_)
            refine AWH.one (i := 16) (by kernel_rfl) rfl ?_
            refine Y1 (Yv.indexSl (j := x.at_.toNat) rfl ss_49 (B rfl) (E rfl rfl) (E rfl rfl) (fun hg => ⟨(Int.toNat_of_nonneg hat0).symm, by rw [len_code]; omega⟩)) ?_
            refine AWL.nil (kpH (tcR 1 rfl rfl pinV (tcR 1 rfl rfl pinV tc0)) ?_)
            refine AWH.one (i := 17) (by kernel_rfl) rfl ?_
            refine Y1 (Yv.loadRpA rfl ag_58 (E rfl rfl) (fun hg => ins_cells (by omega))) ?_
            refine AWL.nil (kpH (tcR 1 rfl rfl pinV (tcR 1 rfl rfl pinV tc0)) ?_)
            refine AWH.one (i := 19) (by kernel_rfl) rfl ?_
            refine AWL.storeBox (i := 6) rfl rfl rfl ag_58 rfl (E rfl rfl) (E rfl rfl) rfl rfl (Nat.le_of_ble_eq_true rfl) ?_
            refine AWL.nil (kpH (tcR 1 rfl rfl pinV (tcR 1 rfl rfl pinV tc0)) ?_)
            refine AWH.done (by kernel_rfl) ?_
            exact ⟨b6, trivial, (Sub.cons rfl rfl (Sub.cons rfl rfl (Sub.cons rfl rfl (Sub.cons rfl rfl Sub.nil)))), rfl⟩
        ·
          rintro b6 hmid
          refine AW.seq ?_
          refine AW.rseq ?_
          refine Y1 (Yv.fieldBox rfl fo_58_0 eV) ?_
          refine Y1 (Yv.loadBox rfl ag_3 (i := 6) rfl (E rfl rfl) rfl) ?_
          refine Y1 (Yv.eql rfl eV eV) ?_
          refine nl ?_
          refine AW.cond rfl (fun h2t => ?_) (fun h2f => ?_)
          ·
            try replace h2t := of_decide_eq_true h2t
            have hk19 : ((ps.prog.funs.getD fi default).code.getD x.at_.toNat default).kind = 19 := h2t
            refine AW.rseq ?_
            refine Y1 (Yv.move rfl eV) ?_
            refine Y1 (Yv.nilChkEp rfl (E rfl rfl)) ?_
            refine Y1 (Yv.fieldEp rfl fo_87_1 (E rfl rfl)) ?_
            refine Y1 (Yv.loadEp rfl ag_3 (i := 1) rfl (E rfl rfl) (fun _ => rfl)) ?_
            refine Y1 (Yv.addN_i64 rfl (E rfl rfl) (E rfl rfl) (fun hg => by omega)) ?_
            refine Y1 (Yv.nilChkEp rfl (E rfl rfl)) ?_
            refine Y1 (Yv.fieldEp rfl fo_87_1 (E rfl rfl)) ?_
            refine AWL.storeEp1 (i := 1) rfl rfl rfl ag_3 rfl (E rfl rfl) (E rfl rfl) rfl rfl (by rw [fr_len]; omega) ?_
            refine nl ?_
            refine AW.dropAt 6 ?_
            refine AW.exit ?_
            obtain ⟨m, rfl⟩ : ∃ k, m = k + 1 := ⟨m - 1, by omega⟩
            have hin1 := hin _ hat1
            have hnx : x.at_.toNat + 1 < L.length := by
              rw [hI] at hk19
              rcases hin1.kind with ⟨_, h⟩ | h
              · exact h
              · omega
            refine ⟨m, f, ps, goF x, ⟨⟨hpr, hxf, hnr, hns, goF_ok hok, by show 0 ≤ x.at_ + 1; omega, by show (x.at_ + 1).toNat < _; omega⟩, ⟨hb1, hb2, hb3⟩, ?_, ?_⟩, by omega, (Sub.cons rfl rfl (Sub.cons rfl rfl Sub.nil)), ?_⟩
            · show f.toNat * (L.length + 1) + (L.length - (x.at_ + 1).toNat) < m
              omega
            · rw [← hrun, run_label hgo (by rw [← hI]; exact hk19)]
            · rw [show frR (goF x) a = frR x a from rfl, show goF x = { x with at_ := x.at_ + 1 } from rfl, ← fr_jump]
              rfl
          ·
            try replace h2f := of_decide_eq_false h2f
            have hk19 : ¬ ((ps.prog.funs.getD fi default).code.getD x.at_.toNat default).kind = 19 := h2f
            refine AW.skip ?_
            refine AW.seq ?_
            refine AW.rseq ?_
            refine Y1 (Yv.move rfl eV) ?_
            refine Y1 (Yv.move rfl eV) ?_
            refine Y1 (Yv.loadBoxA rfl ag_58 (i := 6) rfl (E rfl rfl) rfl rfl) ?_
            refine C1 rfl ce_32 (E rfl rfl) (evsC (E rfl rfl) (evsC (E rfl rfl) (evsC (E rfl rfl) evs0))) (S1 := ([Ent.box s 80 (psC ps (.v (.slice (some ⟨g, 0, none⟩) 1 c))), Ent.row (some ⟨g, 0, none⟩) 1 c 87 7 (([] : List T) ++ frC x a)] ++ frR x a)) (S2 := _) rfl (do32N s g c ps x a ((ps.prog.funs.getD fi default).code.getD x.at_.toNat default) L.length x.at_.toNat (by rw [hI, hnr, hns]; exact hin _ hat1) (by assumption) hok ⟨hat0, by omega⟩) ?_
            rintro t60 S60 ⟨q, rfl, hq, rfl⟩
            refine Y1 (Yv.not rfl eV) ?_
            refine nl ?_
            refine AW.cond rfl (fun h3t => ?_) (fun h3f => ?_)
            ·
              try replace h3t := of_decide_eq_true h3t
              have hnone : stepR ps x ((ps.prog.funs.getD fi default).code.getD x.at_.toNat default) = none := by simpa using h3t
              rw [hnone] at hq
              subst hq
              refine AW.rseq ?_
              refine Y1 (Yv.move rfl eV) ?_
              refine Y1 (Yv.nilChk rfl eV) ?_
              refine Y1 (Yv.fieldBox rfl fo_80_8 eV) ?_
              refine AWL.storeBox (i := 0) rfl rfl rfl ag_3 rfl (E rfl rfl) (E rfl rfl) rfl rfl (Nat.le_of_ble_eq_true rfl) ?_
              refine nl ?_
              refine AW.dropAt 6 ?_
              refine AW.exit ?_
              refine AW.rseq ?_
              refine Y1 (Yv.move rfl eV) ?_
              refine Y1 (Yv.nilChk rfl eV) ?_
              refine Y1 (Yv.fieldBox rfl fo_80_8 eV) ?_
              refine Y1 (Yv.loadBox rfl ag_3 (i := 0) rfl (E rfl rfl) rfl) ?_
              refine Y1 (Yv.assign rfl eV) ?_
              refine nl ?_
              refine AW.ret (retI (.tmp rfl .nil) ?_)
              obtain ⟨m, rfl⟩ : ∃ k, m = k + 1 := ⟨m - 1, by omega⟩
              rw [← hrun, run_stuck hgo (by rw [← hI]; exact hk19) (by rw [← hI]; exact hnone)]
              exact ⟨rfl, rfl⟩
            ·
              try replace h3f := of_decide_eq_false h3f
              have hsome : stepR ps x ((ps.prog.funs.getD fi default).code.getD x.at_.toNat default) = some q := by
                cases hs : stepR ps x ((ps.prog.funs.getD fi default).code.getD x.at_.toNat default) with
                | none => rw [hs] at h3f; cases h3f
                | some y => rw [hs] at hq; rw [hq]; rfl
              have hkeep := stepR_keeps (len := L.length) (j := x.at_.toNat) (by rw [hI, hnr, hns]; exact hin _ hat1) hk19 hok hsome
              have hks := hkeep.2.1
              refine AW.skip ?_
              refine AW.rseq ?_
              refine Y1 (Yv.move rfl eV) ?_
              refine Y1 (Yv.nilChk rfl eV) ?_
              refine Y1 (Yv.fieldBox rfl fo_80_11 eV) ?_
              refine Y1 (Yv.loadBox rfl ag_3 (i := 0) rfl (E rfl rfl) rfl) ?_
              refine Y1 (Yv.addN_i64 rfl (E rfl rfl) (E rfl rfl) (fun hg => by omega)) ?_
              refine Y1 (Yv.nilChk rfl eV) ?_
              refine Y1 (Yv.fieldBox rfl fo_80_11 eV) ?_
              refine AWL.storeBox (i := 0) rfl rfl rfl ag_3 rfl (E rfl rfl) (E rfl rfl) rfl rfl (Nat.le_of_ble_eq_true rfl) ?_
              refine nl ?_
              refine AW.dropAt 6 ?_
              refine AW.region ?_
              refine Y1 (Yv.move rfl eV) ?_
              refine Y1 (Yv.subN_i64 rfl (E rfl rfl) (E rfl rfl) (fun hg => by omega)) ?_
              refine Y1 (Yv.assign rfl eV) ?_
              refine nl ?_
              obtain ⟨m, rfl⟩ : ∃ k, m = k + 1 := ⟨m - 1, by omega⟩
              obtain ⟨k1, k2, k3, k4, k5, k6, k7⟩ := hkeep
              refine ⟨m, f - 1, { q.1 with steps := q.1.steps + 1 }, q.2, ⟨⟨k1.trans hpr, k6.trans hxf, k4.trans hnr, k5.trans hns, k3, by omega, by omega⟩, ⟨by omega, by show 0 ≤ q.1.steps + 1; omega, by show q.1.steps + 1 + (f - 1) ≤ _; omega⟩, ?_, ?_⟩, by omega, (Sub.cons rfl rfl (Sub.cons rfl rfl Sub.nil)), rfl⟩
              · have e : f.toNat * (L.length + 1) = (f - 1).toNat * (L.length + 1) + (L.length + 1) := by rw [show f.toNat = (f - 1).toNat + 1 by omega, Nat.add_mul, Nat.one_mul]
                omega
              · rw [← hrun, run_step hgo (by rw [← hI]; exact hk19) (by rw [← hI]; exact hsome)]
      ·
        try replace h1f := of_decide_eq_false h1f
        have hgo : ¬ (0 < f ∧ ps.st = 0) := by simpa using h1f
        refine AW.exit ?_
        refine AW.rseq ?_
        refine Y1 (Yv.move rfl eV) ?_
        refine Y1 (Yv.nilChk rfl eV) ?_
        refine Y1 (Yv.fieldBox rfl fo_80_8 eV) ?_
        refine Y1 (Yv.loadBox rfl ag_3 (i := 0) rfl (E rfl rfl) rfl) ?_
        refine Y1 (Yv.assign rfl eV) ?_
        refine nl ?_
        refine AW.ret (retI (.tmp rfl .nil) ?_)
        rw [← hrun, run_end hgo]
        exact ⟨rfl, rfl⟩

end Go.Proofs.Ytlfklgganokgdaa

namespace Go.Proofs.Ytlfklgganokgdaa
open Go Go.RowKit
set_option linter.unusedVariables false
set_option linter.unnecessarySimpa false
set_option linter.unusedSimpArgs false

theorem pmN {α : Type} {a0 a1 a2 a3 : α} {Z : List α} : (a2 :: a0 :: a1 :: a3 :: Z).Perm (a0 :: a1 :: a2 :: a3 :: Z) :=
  (((((((((List.Perm.refl _).cons a3)).cons a1)).cons a0)).cons a2)).trans (List.perm_middle (a := a2) (l₁ := [a0, a1]) (l₂ := a3 :: Z)).symm
set_option maxHeartbeats 16000000 in
theorem New13N (p : Prog) (heap : Wd64) (strict : Bool) (aw : Addr) (hp : ProgIn p) (hc : checkW p = 0) (hh : ¬ heap < 65536#64) (hh2 : ¬ 1099511627776#64 < heap) (hdat : p.data = []) (hf0 : 0 < p.funs.length) (h0 : 0 ≤ (p.funs.getD 0 default).regs) (h1 : (p.funs.getD 0 default).regs ≤ 65536) (k0 : 0 ≤ (p.funs.getD 0 default).slots) (k1 : (p.funs.getD 0 default).slots ≤ 1048576) :
    ACalls Try.prog 13 [.agg (progCells p), zw heap, bv strict, .v (.pointer (some aw))] [] (fun t S => ∃ b41 b39 A c bs g c2 a, t = .tup [.v (.pointer (some ⟨b41, 0, none⟩)), zi 0] ∧ bs.length = p.funs.length ∧ S = ([Ent.box b41 80 (psC (psN p (.v (.slice A p.funs.length c)) heap strict (.v (.pointer (some aw))) (.v (.map (some b39)))) (.v (.slice (some ⟨g, 0, none⟩) 1 c2))), Ent.row (some ⟨g, 0, none⟩) 1 c2 87 7 (([] : List T) ++ frC (openFr (p.funs.getD 0 default) 0 [] 0) a)] ++ frR (openFr (p.funs.getD 0 default) 0 [] 0) a) ++ ([Ent.map b39 [], Ent.row A p.funs.length c 53 1 (bs.map mapT)] ++ mapsE bs p.funs)) := by
  have hpf := hp.funs
  refine ACalls.intro Try.func13 rfl Try.ntmps13 (Nat.le_of_ble_eq_true rfl) rfl fun X w0 => ?_
  refine AW.rseq ?_
  refine AWL.boxOp rfl rfl (B rfl) rfl (E rfl rfl) rfl (fun b4 => ?_)
  refine Y1 (Yv.assign rfl eV) ?_
  refine Y1 (Yv.assign rfl eV) ?_
  refine nl ?_
  refine AW.seq ?_
  refine AW.rseq ?_
  refine Y1 (Yv.loadBoxA rfl ag_25 (i := 0) rfl (E rfl rfl) rfl rfl) ?_
  refine AWL.callP rfl rfl (B rfl) rfl ce_6 (E rfl rfl) (evsC (E rfl rfl) evs0) (Check6 p hp) (fun t S h => h) ?_
  refine Y1 (Yv.assign rfl eV) ?_
  refine nl ?_
  refine AW.rseq ?_
  refine Y1 (Yv.move rfl eV) ?_
  refine Y1 (Yv.neq rfl eV eV) ?_
  refine nl ?_
  refine AW.cond rfl (fun h0t => ?_) (fun h0f => ?_)
  ·
    try replace h0t := of_decide_eq_true h0t
    exact absurd hc (by simpa using h0t)
  ·
    try replace h0f := of_decide_eq_false h0f
    refine AW.skip ?_
    refine AW.seq ?_
    refine AW.rseq ?_
    refine Y1 (Yv.move rfl eV) ?_
    refine Y1 (Yv.lssW (b := 65536#64) rfl (E rfl rfl) (E rfl rfl)) ?_
    refine Y1 (Yv.move rfl eV) ?_
    refine AWL.ygF rfl rfl rfl rfl (B rfl) (Yv.move rfl (E rfl rfl)) ?_
    refine AWL.ygF rfl rfl rfl rfl (B rfl) (Yv.gtrW (b := 1099511627776#64) rfl (Eg rfl rfl id) (E rfl rfl)) ?_
    refine Y1 (Yv.pickOr (t := .const (.bool true)) rfl (E rfl rfl) (Eg rfl rfl id)) ?_
    refine Y1 (Yv.move rfl eV) ?_
    refine AWL.ygF rfl rfl rfl rfl (B rfl) (Yv.move rfl (E rfl rfl)) ?_
    refine AWL.ygF rfl rfl rfl rfl (B rfl) (Yv.eqlNilP rfl pn_34 (Eg rfl rfl id)) ?_
    refine Y1 (Yv.pickOr (t := .const (.bool true)) rfl (E rfl rfl) (Eg rfl rfl id)) ?_
    refine nl ?_
    refine AW.cond rfl (fun h1t => ?_) (fun h1f => ?_)
    ·
      try replace h1t := of_decide_eq_true h1t
      exfalso; simp [hh, hh2] at h1t
    ·
      try replace h1f := of_decide_eq_false h1f
      refine AW.skip ?_
      refine AW.rseq ?_
      refine Y1 (Yv.loadBoxA rfl ag_25 (i := 0) rfl (E rfl rfl) rfl rfl) ?_
      refine AWL.callT rfl rfl (B rfl) rfl ce_29 (E rfl rfl) (evsC (E rfl rfl) evs0) (kept29 p hp) ?_
      rintro t35 S35 rfl
      refine Y1 (Yv.move rfl eV) ?_
      refine Y1 (Yv.move rfl eV) ?_
      refine Y1 (Yv.move rfl eV) ?_
      refine AWL.makeMapOp rfl rfl (B rfl) rfl (fun b39 => ?_)
      refine Y1 (Yv.buildS rfl sh_80 (evpC (E rfl rfl) (evpC (E rfl rfl) (evpC (E rfl rfl) (evpC (E rfl rfl) (evpC (E rfl rfl) evp0))))) (fun _ => rfl)) ?_
      refine AWL.boxOp rfl rfl (B rfl) rfl (E rfl rfl) rfl (fun b41 => ?_)
      refine Y1 (Yv.assign rfl eV) ?_
      refine nl ?_
      refine AW.rowNil 53 1 ?_
      refine AW.perm (S' := [Ent.box b41 80 (psC (psN p (.v (.slice none 0 0)) heap strict (.v (.pointer (some aw))) (.v (.map (some b39)))) (.v (.slice none 0 0))), Ent.box b4 25 (progCells p), Ent.map b39 [], Ent.row none 0 0 53 1 (([] : List Nat).map mapT)] ++ mapsE [] (p.funs.take 0)) pmN ?_
      refine AW.seq ?_
      refine AW.rseq ?_
      refine Y1 (Yv.fieldBox rfl fo_25_0 eV) ?_
      refine Y1 (Yv.loadBox rfl ag_22 (i := 1) rfl (E rfl rfl) rfl) ?_
      refine Y1 (Yv.lenSl rfl so_22 (B rfl) (E rfl rfl) len_funs) ?_
      refine Y1 (Yv.move rfl eV) ?_
      refine nl ?_
      refine AW.block ?_
      refine AW.loop4 (fun (j : Nat) (bs : List Nat) (A : Option Addr) (c : Nat) => [(4, true, .v (.pointer (some ⟨b4, 0, none⟩))), (11, true, .v (.pointer (some ⟨b41, 0, none⟩))), (43, true, .sl 5 (p.funs.flatMap fnCells)), (44, true, .v (.int .i64 (p.funs.length : Int))), (45, true, .v (.int .i64 (j : Int)))]) (fun (j : Nat) (bs : List Nat) (A : Option Addr) (c : Nat) => ([Ent.box b41 80 (psC (psN p (.v (.slice A j c)) heap strict (.v (.pointer (some aw))) (.v (.map (some b39)))) (.v (.slice none 0 0))), Ent.box b4 25 (progCells p), Ent.map b39 [], Ent.row A j c 53 1 (bs.map mapT)] ++ mapsE bs (p.funs.take j))) (fun (j : Nat) (bs : List Nat) (A : Option Addr) (c : Nat) => j ≤ p.funs.length ∧ bs.length = j) (fun (j : Nat) (bs : List Nat) (A : Option Addr) (c : Nat) => p.funs.length - j) 0 ([]) none 0 ?_ ?_ ?_ ?_
      · exact ⟨Nat.zero_le _, rfl⟩
      · exact (Sub.cons rfl rfl (Sub.cons rfl rfl (Sub.cons rfl rfl (Sub.cons rfl rfl (Sub.cons rfl rfl Sub.nil)))))
      · rfl
      ·
        intro j bs A c hinv
        obtain ⟨hj, hbs⟩ := hinv
        refine AW.rseq ?_
        refine Y1 (Yv.lss rfl eV eV) ?_
        refine nl ?_
        refine AW.seq ?_
        refine AW.cond rfl (fun h2t => ?_) (fun h2f => ?_)
        ·
          try replace h2t := of_decide_eq_true h2t
          have hjl : j < p.funs.length := by omega
          have hfc := (hp.fn _ (getD_mem hjl)).code
          refine AW.skip ?_
          refine AW.seq ?_
          refine AW.block ?_
          refine AW.rseq ?_
          refine Y1 (Yv.indexSl rfl ss_22 (B rfl) (E rfl rfl) (E rfl rfl) (fun hg => ⟨rfl, (by first | omega | (simp only [len_code, len_funs, len_args, len_data]; omega))⟩)) ?_
          refine Y1 (Yv.loadRpA rfl ag_51 (E rfl rfl) (fun hg => fn_cells (by omega))) ?_
          refine AWL.allocOp rfl rfl (B rfl) rfl zc_51 (fun b13 => ?_)
          refine AWL.perm (List.perm_append_singleton _ _).symm ?_
          refine AWL.storeBox (i := 0) rfl rfl rfl ag_51 rfl (E rfl rfl) (E rfl rfl) rfl rfl (Nat.le_of_ble_eq_true rfl) ?_
          refine nl ?_
          refine AW.rseq ?_
          refine AWL.makeMapOp rfl rfl (B rfl) rfl (fun b49 => ?_)
          refine AWL.perm (List.perm_append_singleton _ _).symm ?_
          refine Y1 (Yv.assign rfl eV) ?_
          refine nl ?_
          refine AW.seq ?_
          refine AW.rseq ?_
          refine Y1 (Yv.fieldBox rfl fo_51_4 eV) ?_
          refine Y1 (Yv.loadBox rfl ag_49 (i := 1) rfl (E rfl rfl) rfl) ?_
          refine Y1 (Yv.lenSl rfl so_49 (B rfl) (E rfl rfl) len_code) ?_
          refine Y1 (Yv.move rfl eV) ?_
          refine nl ?_
          refine AW.block ?_
          refine AW.loop (fun (q : Nat) => [(4, true, .v (.pointer (some ⟨b4, 0, none⟩))), (11, true, .v (.pointer (some ⟨b41, 0, none⟩))), (43, true, .sl 5 (p.funs.flatMap fnCells)), (44, true, .v (.int .i64 (p.funs.length : Int))), (45, true, .v (.int .i64 (j : Int))), (13, true, .v (.pointer (some ⟨b13, 0, none⟩))), (14, true, .v (.map (some b49))), (51, true, .sl 11 ((p.funs.getD j default).code.flatMap insCells)), (52, true, .v (.int .i64 ((p.funs.getD j default).code.length : Int))), (53, true, .v (.int .i64 (q : Int)))]) (fun (q : Nat) => (.map b49 (lmT (whT (p.funs.getD j default).code q)) :: .box b13 51 (fnCells (p.funs.getD j default)) :: ([Ent.box b41 80 (psC (psN p (.v (.slice A j c)) heap strict (.v (.pointer (some aw))) (.v (.map (some b39)))) (.v (.slice none 0 0))), Ent.box b4 25 (progCells p), Ent.map b39 [], Ent.row A j c 53 1 (bs.map mapT)] ++ mapsE bs (p.funs.take j)))) (fun (q : Nat) => q ≤ (p.funs.getD j default).code.length) (fun (q : Nat) => (p.funs.getD j default).code.length - q) 0 ?_ ?_ ?_ ?_
          · exact Nat.zero_le _
          · exact (Sub.cons rfl rfl (Sub.cons rfl rfl (Sub.cons rfl rfl (Sub.cons rfl rfl (Sub.cons rfl rfl (Sub.cons rfl rfl (Sub.cons rfl rfl (Sub.cons rfl rfl (Sub.cons rfl rfl (Sub.cons rfl rfl Sub.nil))))))))))
          · rfl
          ·
            intro q hq0
            refine AW.rseq ?_
            refine Y1 (Yv.lss rfl eV eV) ?_
            refine nl ?_
            refine AW.seq ?_
            refine AW.cond rfl (fun h3t => ?_) (fun h3f => ?_)
            ·
              try replace h3t := of_decide_eq_true h3t
              have hq : q < (p.funs.getD j default).code.length := by omega
              refine AW.skip ?_
              refine AW.seq ?_
              refine AW.block ?_
              refine AW.rseq ?_
              refine Y1 (Yv.move rfl eV) ?_
              refine Y1 (Yv.indexSl rfl ss_49 (B rfl) (E rfl rfl) (E rfl rfl) (fun hg => ⟨rfl, (by first | omega | (simp only [len_code, len_funs, len_args, len_data]; omega))⟩)) ?_
              refine Y1 (Yv.loadRpA rfl ag_58 (E rfl rfl) (fun hg => ins_cells (by omega))) ?_
              refine AWL.allocOp rfl rfl (B rfl) rfl zc_58 (fun b16 => ?_)
              refine AWL.perm (List.perm_append_singleton _ _).symm ?_
              refine Y1 (Yv.assign rfl eV) ?_
              refine AWL.storeBox (i := 0) rfl rfl rfl ag_58 rfl (E rfl rfl) (E rfl rfl) rfl rfl (Nat.le_of_ble_eq_true rfl) ?_
              refine nl ?_
              refine AW.rseq ?_
              refine Y1 (Yv.fieldBox rfl fo_58_0 eV) ?_
              refine Y1 (Yv.loadBox rfl ag_3 (i := 0) rfl (E rfl rfl) rfl) ?_
              refine Y1 (Yv.eql rfl eV eV) ?_
              refine nl ?_
              refine AW.cond rfl (fun h4t => ?_) (fun h4f => ?_)
              ·
                try replace h4t := of_decide_eq_true h4t
                refine AW.region ?_
                refine Y1 (Yv.move rfl eV) ?_
                refine Y1 (Yv.fieldBox rfl fo_58_4 eV) ?_
                refine Y1 (Yv.loadBox rfl ag_3 (i := 0) rfl (E rfl rfl) rfl) ?_
                refine Y1 (Yv.move rfl eV) ?_
                refine AWL.mapUpd (k := .i _ _) (i := 1) rfl rfl (.inl rfl) mp_53 rfl (E rfl rfl) (E rfl rfl) (E rfl rfl) rfl rfl (lm_good _ _ rfl) ?_
                refine nl ?_
                refine AW.dropAt 0 ?_
                refine AW.region ?_
                refine Y1 (Yv.addN_i64 rfl (E rfl rfl) (E rfl rfl) (fun hg => by omega)) ?_
                refine Y1 (Yv.move rfl eV) ?_
                refine nl ?_
                refine ⟨q + 1, by omega, by omega, (Sub.cons rfl rfl (Sub.cons rfl rfl (Sub.cons rfl rfl (Sub.cons rfl rfl (Sub.cons rfl rfl (Sub.cons rfl rfl (Sub.cons rfl rfl (Sub.cons rfl rfl (Sub.cons rfl rfl (Sub.cons rfl (by simp) Sub.nil)))))))))), ?_⟩
                rw [wh_succ hq, whStep, if_pos h4t, ← put_lm]
                rfl
              ·
                try replace h4f := of_decide_eq_false h4f
                refine AW.skip ?_
                refine AW.dropAt 0 ?_
                refine AW.region ?_
                refine Y1 (Yv.addN_i64 rfl (E rfl rfl) (E rfl rfl) (fun hg => by omega)) ?_
                refine Y1 (Yv.move rfl eV) ?_
                refine nl ?_
                refine ⟨q + 1, by omega, by omega, (Sub.cons rfl rfl (Sub.cons rfl rfl (Sub.cons rfl rfl (Sub.cons rfl rfl (Sub.cons rfl rfl (Sub.cons rfl rfl (Sub.cons rfl rfl (Sub.cons rfl rfl (Sub.cons rfl rfl (Sub.cons rfl (by simp) Sub.nil)))))))))), ?_⟩
                rw [wh_succ hq, whStep, if_neg h4f]
                rfl
            ·
              try replace h3f := of_decide_eq_false h3f
              obtain rfl : q = (p.funs.getD j default).code.length := by omega
              rw [wh_all (Nat.le_refl _)]
              refine AW.exit ?_
              refine AW.region ?_
              refine Y1 (Yv.move rfl eV) ?_
              refine Y1 (Yv.move rfl eV) ?_
              refine Y1 (Yv.nilChk rfl eV) ?_
              refine Y1 (Yv.fieldBox rfl fo_80_1 eV) ?_
              refine Y1 (Yv.loadBox rfl ag_77 (i := 2) rfl (E rfl rfl) rfl) ?_
              refine Y1 (Yv.move rfl eV) ?_
              refine AWL.buildSlice1 rfl rfl (B rfl) rfl el_77 rfl (evsC (E rfl rfl) evs0) (Nat.le_of_ble_eq_true rfl) rfl rfl ?_
              refine AWL.appendRow (i := 5) rfl rfl (B rfl) rfl el_77 (B rfl) rfl (E rfl rfl) (SrcT.sl so_77 (B rfl) (E rfl rfl) rfl) (by unfold maxLen; omega) (by omega) (fun A73 c73 => ?_)
              refine Y1 (Yv.nilChk rfl eV) ?_
              refine Y1 (Yv.fieldBox rfl fo_80_1 eV) ?_
              refine AWL.storeBox (i := 2) rfl rfl rfl ag_77 rfl (E rfl rfl) (E rfl rfl) rfl rfl (Nat.le_of_ble_eq_true rfl) ?_
              refine nl ?_
              refine AW.dropAt 1 ?_
              refine AW.perm (S' := ([Ent.box b41 80 (psC (psN p (.v (.slice A73 (j + 1) c73)) heap strict (.v (.pointer (some aw))) (.v (.map (some b39)))) (.v (.slice none 0 0))), Ent.box b4 25 (progCells p), Ent.map b39 [], Ent.row A73 (j + 1) c73 53 1 ((bs ++ [b49]).map mapT)] ++ mapsE bs (p.funs.take j)) ++ [.map b49 (lmT (whL (p.funs.getD j default).code))]) (by rw [List.map_append]; exact List.perm_append_singleton _ _) ?_
              refine AW.region ?_
              refine Y1 (Yv.addN_i64 rfl (E rfl rfl) (E rfl rfl) (fun hg => by omega)) ?_
              refine Y1 (Yv.move rfl eV) ?_
              refine nl ?_
              refine ⟨j + 1, bs ++ [b49], A73, c73, ⟨by omega, by rw [List.length_append, hbs]; rfl⟩, by omega, (Sub.cons rfl rfl (Sub.cons rfl rfl (Sub.cons rfl rfl (Sub.cons rfl rfl (Sub.cons rfl (by simp) Sub.nil))))), ?_⟩
              rw [mapsE_succ hjl hbs, ← List.append_assoc]
        ·
          try replace h2f := of_decide_eq_false h2f
          obtain rfl : j = p.funs.length := by omega
          refine AW.exit ?_
          refine AW.seq ?_
          refine AW.rseq ?_
          refine Y1 (Yv.fieldBox rfl fo_25_1 eV) ?_
          refine Y1 (Yv.loadBox rfl ag_23 (i := 1) rfl (E rfl rfl) rfl) ?_
          refine Y1 (Yv.lenSl rfl so_23 (B rfl) (E rfl rfl) len_data) ?_
          refine Y1 (Yv.move rfl eV) ?_
          refine nl ?_
          refine AW.block ?_
          refine AW.loop (fun (i : Nat) => [(4, true, .v (.pointer (some ⟨b4, 0, none⟩))), (11, true, .v (.pointer (some ⟨b41, 0, none⟩))), (78, true, .sl 1 (p.data.map u8)), (79, true, .v (.int .i64 (p.data.length : Int))), (80, true, .v (.int .i64 (i : Int)))]) (fun (i : Nat) => ([Ent.box b41 80 (psC (psN p (.v (.slice A p.funs.length c)) heap strict (.v (.pointer (some aw))) (.v (.map (some b39)))) (.v (.slice none 0 0))), Ent.box b4 25 (progCells p), Ent.map b39 [], Ent.row A p.funs.length c 53 1 (bs.map mapT)] ++ mapsE bs (p.funs.take p.funs.length))) (fun (i : Nat) => True) (fun (i : Nat) => 0) 0 ?_ ?_ ?_ ?_
          · trivial
          · exact (Sub.cons rfl rfl (Sub.cons rfl rfl (Sub.cons rfl rfl (Sub.cons rfl rfl (Sub.cons rfl rfl Sub.nil)))))
          · rfl
          ·
            intro i hinv
            refine AW.rseq ?_
            refine Y1 (Yv.lss rfl eV eV) ?_
            refine nl ?_
            refine AW.seq ?_
            refine AW.cond rfl (fun h5t => ?_) (fun h5f => ?_)
            ·
              try replace h5t := of_decide_eq_true h5t
              exfalso; rw [hdat] at h5t; simp only [List.length_nil] at h5t; omega
            ·
              try replace h5f := of_decide_eq_false h5f
              refine AW.exit ?_
              rw [List.take_length]
              refine AW.dropAt 1 ?_
              refine AW.rowNil 87 7 ?_
              refine AW.perm (S' := [Ent.box b41 80 (psC (psN p (.v (.slice A p.funs.length c)) heap strict (.v (.pointer (some aw))) (.v (.map (some b39)))) (.v (.slice none 0 0))), Ent.row none 0 0 87 7 []] ++ ([Ent.map b39 [], Ent.row A p.funs.length c 53 1 (bs.map mapT)] ++ mapsE bs p.funs)) (((List.perm_append_singleton _ _).symm).cons _) ?_
              refine AW.rseq ?_
              refine Y1 (Yv.move rfl eV) ?_
              refine C1 rfl ce_31 (E rfl rfl) (evsC (E rfl rfl) (evsC (E rfl rfl) (evsC (E rfl rfl) (evsC (E rfl rfl) evs0)))) (S1 := [Ent.box b41 80 (psC (psN p (.v (.slice A p.funs.length c)) heap strict (.v (.pointer (some aw))) (.v (.map (some b39)))) (.v (.slice none 0 0))), Ent.row none 0 0 87 7 []]) (S2 := _) rfl ((open31 b41 (psN p (.v (.slice A p.funs.length c)) heap strict (.v (.pointer (some aw))) (.v (.map (some b39)))) 0 [] 0 none 0 0 [] hf0 hpf h0 h1 k0 k1 h0 (by omega)).le (Les.cons .refl (.cons .refl (.cons (nil_le 1) .refl)))) ?_
              rintro t93 S93 ⟨rfl, g, c2, a, rfl⟩
              refine nl ?_
              refine AW.rseq ?_
              refine Y1 (Yv.move rfl eV) ?_
              refine Y1 (Yv.assign rfl eV) ?_
              refine Y1 (Yv.assign rfl eV) ?_
              refine nl ?_
              refine AW.ret (retI (.tmp rfl (.tmp rfl .nil)) ?_)
              exact ⟨b41, b39, A, c, bs, g, c2, a, rfl, hbs, rfl⟩

end Go.Proofs.Ytlfklgganokgdaa

namespace Go.Proofs.Ytlfklgganokgdaa
open Go Go.RowKit
set_option linter.unusedVariables false
set_option linter.unnecessarySimpa false
set_option linter.unusedSimpArgs false

set_option maxHeartbeats 400000 in
theorem Steps16 (s : Nat) (ps : PS) (cl : T) :
    ACalls Try.prog 16 [.v (.pointer (some ⟨s, 0, none⟩))] [.box s 80 (psC ps cl)] (fun t S => t = zi ps.steps ∧ S = [.box s 80 (psC ps cl)]) := by
  refine ACalls.intro Try.func16 rfl Try.ntmps16 (Nat.le_of_ble_eq_true rfl) rfl fun X w0 => ?_
  refine AW.rseq ?_
  refine Y1 (Yv.assign rfl eV) ?_
  refine nl ?_
  refine AW.seq ?_
  refine AW.rseq ?_
  refine Y1 (Yv.move rfl eV) ?_
  refine Y1 (Yv.eqlNilP rfl pn_36 (E rfl rfl)) ?_
  refine nl ?_
  refine AW.cond rfl (fun h0t => ?_) (fun h0f => ?_)
  ·
    try replace h0t := of_decide_eq_true h0t
    cases h0t
  ·
    try replace h0f := of_decide_eq_false h0f
    refine AW.skip ?_
    refine AW.rseq ?_
    refine Y1 (Yv.move rfl eV) ?_
    refine Y1 (Yv.nilChk rfl eV) ?_
    refine Y1 (Yv.fieldBox rfl fo_80_11 eV) ?_
    refine Y1 (Yv.loadBox rfl ag_3 (i := 0) rfl (E rfl rfl) rfl) ?_
    refine Y1 (Yv.assign rfl eV) ?_
    refine nl ?_
    refine AW.ret (retI (.tmp rfl .nil) ?_)
    exact ⟨rfl, rfl⟩

set_option maxHeartbeats 400000 in
theorem Code17 (s : Nat) (ps : PS) (cl : T) :
    ACalls Try.prog 17 [.v (.pointer (some ⟨s, 0, none⟩))] [.box s 80 (psC ps cl)] (fun t S => t = zi ps.code ∧ S = [.box s 80 (psC ps cl)]) := by
  refine ACalls.intro Try.func17 rfl Try.ntmps17 (Nat.le_of_ble_eq_true rfl) rfl fun X w0 => ?_
  refine AW.rseq ?_
  refine Y1 (Yv.assign rfl eV) ?_
  refine nl ?_
  refine AW.seq ?_
  refine AW.rseq ?_
  refine Y1 (Yv.move rfl eV) ?_
  refine Y1 (Yv.eqlNilP rfl pn_36 (E rfl rfl)) ?_
  refine nl ?_
  refine AW.cond rfl (fun h0t => ?_) (fun h0f => ?_)
  ·
    try replace h0t := of_decide_eq_true h0t
    cases h0t
  ·
    try replace h0f := of_decide_eq_false h0f
    refine AW.skip ?_
    refine AW.rseq ?_
    refine Y1 (Yv.move rfl eV) ?_
    refine Y1 (Yv.nilChk rfl eV) ?_
    refine Y1 (Yv.fieldBox rfl fo_80_10 eV) ?_
    refine Y1 (Yv.loadBox rfl ag_3 (i := 0) rfl (E rfl rfl) rfl) ?_
    refine Y1 (Yv.assign rfl eV) ?_
    refine nl ?_
    refine AW.ret (retI (.tmp rfl .nil) ?_)
    exact ⟨rfl, rfl⟩

set_option maxHeartbeats 400000 in
theorem clone43e  :
    ACalls Try.prog 43 [sv []] [] (fun t S => t = sv []) := by
  refine ACalls.intro Try.func43 rfl Try.ntmps43 (Nat.le_of_ble_eq_true rfl) rfl fun X w0 => ?_
  refine AW.rseq ?_
  refine Y1 (Yv.assign rfl eV) ?_
  refine nl ?_
  refine AW.seq ?_
  refine AW.rseq ?_
  refine Y1 (Yv.move rfl eV) ?_
  refine Y1 (Yv.lenL rfl st_9 (E rfl rfl)) ?_
  refine Y1 (Yv.eql rfl eV eV) ?_
  refine nl ?_
  refine AW.cond rfl (fun h0t => ?_) (fun h0f => ?_)
  ·
    try replace h0t := of_decide_eq_true h0t
    refine AW.rseq ?_
    refine Y1 (Yv.assign rfl eV) ?_
    refine nl ?_
    refine AW.ret (retI (.tmp rfl .nil) ?_)
    rfl
  ·
    try replace h0f := of_decide_eq_false h0f
    exfalso; simp at h0f

set_option maxHeartbeats 400000 in
theorem clone27e  :
    ACalls Try.prog 27 [sv []] [] (fun t S => t = sv []) := by
  refine ACalls.intro Try.func27 rfl Try.ntmps27 (Nat.le_of_ble_eq_true rfl) rfl fun X w0 => ?_
  refine AW.rseq ?_
  refine Y1 (Yv.assign rfl eV) ?_
  refine nl ?_
  refine AW.rseq ?_
  refine Y1 (Yv.move rfl eV) ?_
  refine AWL.callT rfl rfl (B rfl) rfl ce_43 (E rfl rfl) (evsC (E rfl rfl) evs0) (clone43e) ?_
  rintro t4 S4 rfl
  refine Y1 (Yv.assign rfl eV) ?_
  refine nl ?_
  refine AW.ret (retI (.tmp rfl .nil) ?_)
  rfl

set_option maxHeartbeats 2000000 in
theorem New12e  :
    ACalls Try.prog 12 [.agg [sv [], .v (.slice none 0 0)]] [] (fun t S => ∃ aw, t = .v (.pointer (some aw))) := by
  refine ACalls.intro Try.func12 rfl Try.ntmps12 (Nat.le_of_ble_eq_true rfl) rfl fun X w0 => ?_
  refine AW.rseq ?_
  refine AWL.boxOp rfl rfl (B rfl) rfl (E rfl rfl) rfl (fun b1 => ?_)
  refine Y1 (Yv.assign rfl eV) ?_
  refine nl ?_
  refine AW.rseq ?_
  refine AWL.makeMapOp rfl rfl (B rfl) rfl (fun b8 => ?_)
  refine Y1 (Yv.fieldBox rfl fo_33_0 eV) ?_
  refine Y1 (Yv.loadBox rfl ag_9 (i := 0) rfl (E rfl rfl) rfl) ?_
  refine AWL.callT rfl rfl (B rfl) rfl ce_27 (E rfl rfl) (evsC (E rfl rfl) evs0) (clone27e) ?_
  rintro t11 S11 rfl
  refine Y1 (Yv.buildS rfl sh_70 (evpC (E rfl rfl) (evpC (E rfl rfl) evp0)) (fun _ => rfl)) ?_
  refine AWL.boxOp rfl rfl (B rfl) rfl (E rfl rfl) rfl (fun b13 => ?_)
  refine Y1 (Yv.assign rfl eV) ?_
  refine nl ?_
  refine AW.seq ?_
  refine AW.rseq ?_
  refine Y1 (Yv.fieldBox rfl fo_33_1 eV) ?_
  refine Y1 (Yv.loadBox rfl ag_31 (i := 0) rfl (E rfl rfl) rfl) ?_
  refine Y1 (Yv.lenV rfl so_31 (E rfl rfl)) ?_
  refine Y1 (Yv.move rfl eV) ?_
  refine nl ?_
  refine AW.block ?_
  refine AW.loop (fun (j : Nat) => [(3, true, .v (.pointer (some ⟨b13, 0, none⟩))), (16, true, .v (.int .i64 (0 : Int))), (17, true, .v (.int .i64 (0 : Int)))]) (fun (j : Nat) => [.box b1 33 [sv [], .v (.slice none 0 0)], .map b8 [], .box b13 70 [.v (.map (some b8)), sv [], .v (.int .i64 0), .v (.string ⟨#[]⟩), .v (.int .i64 0), .v (.int .i64 0), .v (.string ⟨#[]⟩), .v (.int .i64 0), .v (.int .i64 0), .v (.string ⟨#[]⟩), .v (.int .i64 0), .v (.int .i64 0), .v (.string ⟨#[]⟩), .v (.int .i64 0), .v (.int .i64 0), .v (.string ⟨#[]⟩), .v (.int .i64 0), .v (.int .i64 0), .v (.string ⟨#[]⟩), .v (.int .i64 0), .v (.int .i64 0), .v (.string ⟨#[]⟩), .v (.int .i64 0), .v (.int .i64 0), .v (.string ⟨#[]⟩), .v (.int .i64 0), .v (.int .i64 0), .v (.string ⟨#[]⟩), .v (.int .i64 0), .v (.int .i64 0), .v (.string ⟨#[]⟩), .v (.int .i64 0), .v (.int .i64 0), .v (.string ⟨#[]⟩), .v (.int .i64 0), .v (.int .i64 0), .v (.string ⟨#[]⟩), .v (.int .i64 0), .v (.int .i64 0), .v (.string ⟨#[]⟩), .v (.int .i64 0), .v (.int .i64 0), .v (.string ⟨#[]⟩), .v (.int .i64 0), .v (.int .i64 0), .v (.string ⟨#[]⟩), .v (.int .i64 0), .v (.int .i64 0), .v (.string ⟨#[]⟩), .v (.int .i64 0), .v (.int .i64 0), .v (.string ⟨#[]⟩), .v (.int .i64 0), .v (.int .i64 0), .v (.string ⟨#[]⟩), .v (.int .i64 0), .v (.int .i64 0), .v (.string ⟨#[]⟩), .v (.int .i64 0), .v (.slice none 0 0)]]) (fun (j : Nat) => True) (fun (j : Nat) => 0) 0 ?_ ?_ ?_ ?_
  · trivial
  · exact (Sub.cons rfl rfl (Sub.cons rfl rfl (Sub.cons rfl rfl Sub.nil)))
  · rfl
  ·
    intro j hinv
    refine AW.rseq ?_
    refine Y1 (Yv.lss rfl eV eV) ?_
    refine nl ?_
    refine AW.seq ?_
    refine AW.cond rfl (fun h0t => ?_) (fun h0f => ?_)
    ·
      try replace h0t := of_decide_eq_true h0t
      exfalso; omega
    ·
      try replace h0f := of_decide_eq_false h0f
      refine AW.exit ?_
      refine AW.rseqP rfl ?_
      refine AWP.take (i := 0) rfl (by kernel_rfl) (by kernel_rfl) (by kernel_rfl) rfl rfl (B rfl) (freeMove rfl (E rfl rfl)) ?_
      refine AWP.take (i := 1) rfl (by kernel_rfl) (by kernel_rfl) (by kernel_rfl) rfl rfl (B rfl) (freeMove rfl (E rfl rfl)) ?_
      refine AWP.take (i := 2) rfl (by kernel_rfl) (by kernel_rfl) (by kernel_rfl) rfl rfl (B rfl) (freeMove rfl (E rfl rfl)) ?_
      refine AWP.take (i := 3) rfl (by kernel_rfl) (by kernel_rfl) (by kernel_rfl) rfl rfl (B rfl) (freeNil rfl (E rfl rfl)) ?_
      refine AWP.take (i := 4) rfl (by kernel_rfl) (by kernel_rfl) (by kernel_rfl) rfl rfl (B rfl) (freeField rfl fo_70_2 (E rfl rfl)) ?_
      refine AWP.take (i := 5) rfl (by kernel_rfl) (by kernel_rfl) (by kernel_rfl) rfl rfl (B rfl) (freeArr (j := 0) rfl ar_68 (E rfl rfl) (E rfl rfl) ⟨rfl, by decide⟩) ?_
      refine AWP.take (i := 6) rfl (by kernel_rfl) (by kernel_rfl) (by kernel_rfl) rfl rfl (B rfl) (freeField rfl fo_67_0 (E rfl rfl)) ?_
      refine AWP.take (i := 8) rfl (by kernel_rfl) (by kernel_rfl) (by kernel_rfl) rfl rfl (B rfl) (freeNil rfl (E rfl rfl)) ?_
      refine AWP.take (i := 9) rfl (by kernel_rfl) (by kernel_rfl) (by kernel_rfl) rfl rfl (B rfl) (freeField rfl fo_70_2 (E rfl rfl)) ?_
      refine AWP.take (i := 13) rfl (by kernel_rfl) (by kernel_rfl) (by kernel_rfl) rfl rfl (B rfl) (freeNil rfl (E rfl rfl)) ?_
      refine AWP.take (i := 14) rfl (by kernel_rfl) (by kernel_rfl) (by kernel_rfl) rfl rfl (B rfl) (freeField rfl fo_70_2 (E rfl rfl)) ?_
      refine AWP.one (i := 7) (by kernel_rfl) rfl ?_
      refine AWL.storeBox (i := 2) rfl rfl rfl ag_3 rfl (E rfl rfl) (E rfl rfl) rfl rfl (Nat.le_of_ble_eq_true rfl) ?_
      refine nl ?_
      refine AWP.one (i := 10) (by kernel_rfl) rfl ?_
      refine Y1 (Yv.indexArr (j := 1) rfl ar_68 (E rfl rfl) (E rfl rfl) (fun hg => ⟨rfl, by decide⟩)) ?_
      refine nl ?_
      refine AWP.one (i := 11) (by kernel_rfl) rfl ?_
      refine Y1 (Yv.fieldBox rfl fo_67_0 eV) ?_
      refine nl ?_
      refine AWP.one (i := 12) (by kernel_rfl) rfl ?_
      refine AWL.storeBox (i := 2) rfl rfl rfl ag_3 rfl (E rfl rfl) (E rfl rfl) rfl rfl (Nat.le_of_ble_eq_true rfl) ?_
      refine nl ?_
      refine AWP.one (i := 15) (by kernel_rfl) rfl ?_
      refine Y1 (Yv.indexArr (j := 2) rfl ar_68 (E rfl rfl) (E rfl rfl) (fun hg => ⟨rfl, by decide⟩)) ?_
      refine nl ?_
      refine AWP.one (i := 16) (by kernel_rfl) rfl ?_
      refine Y1 (Yv.fieldBox rfl fo_67_0 eV) ?_
      refine nl ?_
      refine AWP.one (i := 17) (by kernel_rfl) rfl ?_
      refine AWL.storeBox (i := 2) rfl rfl rfl ag_3 rfl (E rfl rfl) (E rfl rfl) rfl rfl (Nat.le_of_ble_eq_true rfl) ?_
      refine nl ?_
      refine AWP.done (by kernel_rfl) ?_
      refine AW.rseq ?_
      refine Y1 (Yv.move rfl eV) ?_
      refine Y1 (Yv.assign rfl eV) ?_
      refine nl ?_
      refine AW.ret (retI (.tmp rfl .nil) ?_)
      exact ⟨_, rfl⟩

theorem knownA (b41 b39 g c2 c : Nat) (aw : Addr) (A : Option Addr) (a : FA) : ACalls Try.prog 15 [.v (.pointer (some ⟨b41, 0, none⟩)), zi 3] ([Ent.box b41 80 (psC (psL (.v (.pointer (some aw))) (.v (.map (some b39))) (.v (.slice A 1 c))) (.v (.slice (some ⟨g, 0, none⟩) 1 c2))), Ent.row (some ⟨g, 0, none⟩) 1 c2 87 7 (([] : List T) ++ frC frL a)] ++ frR frL a) (fun t S => t = zi 0 ∧ S = ([Ent.box b41 80 (psC (ps1 (.v (.pointer (some aw))) (.v (.map (some b39))) (.v (.slice A 1 c))) (.v (.slice (some ⟨g, 0, none⟩) 1 c2))), Ent.row (some ⟨g, 0, none⟩) 1 c2 87 7 (([] : List T) ++ frC (fr1L (.v (.pointer (some aw))) (.v (.map (some b39))) (.v (.slice A 1 c))) a)] ++ frR (fr1L (.v (.pointer (some aw))) (.v (.map (some b39))) (.v (.slice A 1 c))) a)) :=
  (Run15A b41 g c2 (psL (.v (.pointer (some aw))) (.v (.map (some b39))) (.v (.slice A 1 c))) frL a 3 little 0 3 0 codeL 100 (by decide) rfl (by decide) littleA (ra0 (.v (.pointer (some aw))) (.v (.map (some b39))) (.v (.slice A 1 c))) ⟨by decide, show (0 : Int) ≤ 0 from Int.le_refl _, show (0 : Int) + 3 ≤ 4611686018427387904 from by decide⟩ (by decide)).mono fun t S h => by
    rw [ps1_eq, fr1_eq] at h
    exact ⟨by rw [h.1, ps1_st], h.2⟩
theorem knownB (b41 b39 g c2 c : Nat) (aw : Addr) (A : Option Addr) (a : FA) : ACalls Try.prog 15 [.v (.pointer (some ⟨b41, 0, none⟩)), zi 9] ([Ent.box b41 80 (psC (ps1 (.v (.pointer (some aw))) (.v (.map (some b39))) (.v (.slice A 1 c))) (.v (.slice (some ⟨g, 0, none⟩) 1 c2))), Ent.row (some ⟨g, 0, none⟩) 1 c2 87 7 (([] : List T) ++ frC (fr1L (.v (.pointer (some aw))) (.v (.map (some b39))) (.v (.slice A 1 c))) a)] ++ frR (fr1L (.v (.pointer (some aw))) (.v (.map (some b39))) (.v (.slice A 1 c))) a) (fun t S => t = zi 1 ∧ S = ([Ent.box b41 80 (psC (ps2 (.v (.pointer (some aw))) (.v (.map (some b39))) (.v (.slice A 1 c))) (.v (.slice (some ⟨g, 0, none⟩) 1 c2))), Ent.row (some ⟨g, 0, none⟩) 1 c2 87 7 (([] : List T) ++ frC (fr2L (.v (.pointer (some aw))) (.v (.map (some b39))) (.v (.slice A 1 c))) a)] ++ frR (fr2L (.v (.pointer (some aw))) (.v (.map (some b39))) (.v (.slice A 1 c))) a)) :=
  (Run15A b41 g c2 (ps1 (.v (.pointer (some aw))) (.v (.map (some b39))) (.v (.slice A 1 c))) (fr1L (.v (.pointer (some aw))) (.v (.map (some b39))) (.v (.slice A 1 c))) a 9 little 0 3 0 codeL 100 (by decide) rfl (by decide) littleA (ra1 (.v (.pointer (some aw))) (.v (.map (some b39))) (.v (.slice A 1 c))) ⟨by decide, by rw [ps1_steps]; decide, by rw [ps1_steps]; decide⟩ (by rw [ra1_at]; decide)).mono fun t S h => by
    rw [ps2_eq, fr2_eq] at h
    exact ⟨by rw [h.1, ps2_st], h.2⟩
theorem knownC (b41 b39 g c2 c : Nat) (aw : Addr) (A : Option Addr) (a : FA) (cl : T) : ACalls Try.prog 17 [.v (.pointer (some ⟨b41, 0, none⟩))] [.box b41 80 (psC (ps2 (.v (.pointer (some aw))) (.v (.map (some b39))) (.v (.slice A 1 c))) cl)] (fun t S => t = zi 254 ∧ S = [.box b41 80 (psC (ps2 (.v (.pointer (some aw))) (.v (.map (some b39))) (.v (.slice A 1 c))) cl)]) :=
  (Code17 b41 (ps2 (.v (.pointer (some aw))) (.v (.map (some b39))) (.v (.slice A 1 c))) cl).mono fun t S h => ⟨by rw [h.1, ps2_code], h.2⟩
theorem knownD (b41 b39 g c2 c : Nat) (aw : Addr) (A : Option Addr) (a : FA) (cl : T) : ACalls Try.prog 16 [.v (.pointer (some ⟨b41, 0, none⟩))] [.box b41 80 (psC (ps2 (.v (.pointer (some aw))) (.v (.map (some b39))) (.v (.slice A 1 c))) cl)] (fun t S => t = zi 4 ∧ S = [.box b41 80 (psC (ps2 (.v (.pointer (some aw))) (.v (.map (some b39))) (.v (.slice A 1 c))) cl)]) :=
  (Steps16 b41 (ps2 (.v (.pointer (some aw))) (.v (.map (some b39))) (.v (.slice A 1 c))) cl).mono fun t S h => ⟨by rw [h.1, ps2_steps], h.2⟩
theorem knownE : ACalls Try.prog 9 [littleRaw] [] (fun t S => t = bv true) :=
  ((Strict9 little little_in).mono fun t S ⟨b, h, hb⟩ => by rw [h, hb.2 little_strict]).le (.cons little_le .refl)
theorem knownF : ACalls Try.prog 6 [.agg [nilT, nilT, zi 0]] [] (fun t S => t = zi 130) :=
  ((Check6 emptyP empty_in).mono fun t S h => by rw [h, empty_check]).le (.cons (Le.agg (.cons (nil_le 5) (.cons (nil_le 1) .refl))) .refl)
set_option maxHeartbeats 4000000 in
theorem known11  :
    ACalls Try.prog 11 [] [] (fun t S => t = bv true) := by
  refine ACalls.intro Try.func11 rfl Try.ntmps11 (Nat.le_of_ble_eq_true rfl) rfl fun X w0 => ?_
  refine AW.rseq ?_
  refine Y1 (Yv.assign rfl eV) ?_
  refine nl ?_
  refine AW.rseq ?_
  refine AWL.callT rfl rfl (B rfl) rfl ce_26 (E rfl rfl) evs0 (little26) ?_
  rintro t6 S6 rfl
  refine Y1 (Yv.buildS rfl sh_33 evp0 (fun _ => rfl)) ?_
  refine AWL.callT rfl rfl (B rfl) rfl ce_12 (E rfl rfl) (evsC (E rfl rfl) evs0) (New12e) ?_
  rintro t8 S8 ⟨aw, rfl⟩
  refine C1 rfl ce_13 (E rfl rfl) (evsC (E rfl rfl) (evsC (E rfl rfl) (evsC (E rfl rfl) (evsC (E rfl rfl) evs0)))) (S1 := []) (S2 := _) rfl ((New13N little 65536#64 true aw little_in little_check (by decide) (by decide) rfl (by decide) (by decide) (by decide) (by decide) (by decide)).le (Les.cons little_le .refl)) ?_
  rintro t9 S9 ⟨b41, b39, A, c, bs, g, c2, a, rfl, hbs, rfl⟩
  refine Y1 (Yv.move rfl eV) ?_
  refine Y1 (Yv.extract rfl eV rfl) ?_
  refine Y1 (Yv.extract rfl eV rfl) ?_
  refine Y1 (Yv.assign rfl eV) ?_
  refine Y1 (Yv.assign rfl eV) ?_
  refine nl ?_
  refine AW.seq ?_
  refine AW.drop (S' := ([Ent.box b41 80 (psC (psL (.v (.pointer (some aw))) (.v (.map (some b39))) (.v (.slice A 1 c))) (.v (.slice (some ⟨g, 0, none⟩) 1 c2))), Ent.row (some ⟨g, 0, none⟩) 1 c2 87 7 (([] : List T) ++ frC frL a)] ++ frR frL a)) ((List.sublist_append_left _ _).trans (List.sublist_append_left _ _)) ?_
  refine AW.rseq ?_
  refine Y1 (Yv.move rfl eV) ?_
  refine Y1 (Yv.neq rfl eV eV) ?_
  refine Y1 (Yv.move rfl eV) ?_
  refine AWL.ygF rfl rfl rfl rfl (B rfl) (Yv.move rfl (E rfl rfl)) ?_
  refine AWL.ygF rfl rfl rfl rfl (B rfl) (Yv.eqlNilP rfl pn_36 (Eg rfl rfl id)) ?_
  refine Y1 (Yv.pickOr (t := .const (.bool true)) rfl (E rfl rfl) (Eg rfl rfl id)) ?_
  refine nl ?_
  refine AW.cond rfl (fun h0t => ?_) (fun h0f => ?_)
  ·
    try replace h0t := of_decide_eq_true h0t
    exfalso; simp at h0t
  ·
    try replace h0f := of_decide_eq_false h0f
    refine AW.skip ?_
    refine AW.rseq ?_
    refine Y1 (Yv.move rfl eV) ?_
    refine C1 rfl ce_15 (E rfl rfl) (evsC (E rfl rfl) (evsC (E rfl rfl) evs0)) (S1 := ([Ent.box b41 80 (psC (psL (.v (.pointer (some aw))) (.v (.map (some b39))) (.v (.slice A 1 c))) (.v (.slice (some ⟨g, 0, none⟩) 1 c2))), Ent.row (some ⟨g, 0, none⟩) 1 c2 87 7 (([] : List T) ++ frC frL a)] ++ frR frL a)) (S2 := _) rfl (knownA b41 b39 g c2 c aw A a) ?_
    rintro t19 S19 ⟨rfl, rfl⟩
    refine Y1 (Yv.assign rfl eV) ?_
    refine nl ?_
    refine AW.rseq ?_
    refine Y1 (Yv.move rfl eV) ?_
    refine C1 rfl ce_15 (E rfl rfl) (evsC (E rfl rfl) (evsC (E rfl rfl) evs0)) (S1 := ([Ent.box b41 80 (psC (ps1 (.v (.pointer (some aw))) (.v (.map (some b39))) (.v (.slice A 1 c))) (.v (.slice (some ⟨g, 0, none⟩) 1 c2))), Ent.row (some ⟨g, 0, none⟩) 1 c2 87 7 (([] : List T) ++ frC (fr1L (.v (.pointer (some aw))) (.v (.map (some b39))) (.v (.slice A 1 c))) a)] ++ frR (fr1L (.v (.pointer (some aw))) (.v (.map (some b39))) (.v (.slice A 1 c))) a)) (S2 := _) rfl (knownB b41 b39 g c2 c aw A a) ?_
    rintro t21 S21 ⟨rfl, rfl⟩
    refine Y1 (Yv.assign rfl eV) ?_
    refine nl ?_
    refine AW.rseq ?_
    refine Y1 (Yv.move rfl eV) ?_
    refine Y1 (Yv.eql rfl eV eV) ?_
    refine Y1 (Yv.move rfl eV) ?_
    refine AWL.unguard rfl rfl rfl rfl ?_
    refine Y1 (Yv.move rfl eV) ?_
    refine AWL.unguard rfl rfl rfl rfl ?_
    refine Y1 (Yv.eql rfl eV eV) ?_
    refine Y1 (Yv.pickAnd rfl (E rfl rfl) (E rfl rfl)) ?_
    refine Y1 (Yv.move rfl eV) ?_
    refine AWL.unguard rfl rfl rfl rfl ?_
    refine Y1 (Yv.move rfl eV) ?_
    refine AWL.unguard rfl rfl rfl rfl ?_
    refine AWL.callK rfl rfl (B rfl) rfl ce_17 (E rfl rfl) (evsC (E rfl rfl) evs0) (S1 := [Ent.box b41 80 (psC (ps2 (.v (.pointer (some aw))) (.v (.map (some b39))) (.v (.slice A 1 c))) (.v (.slice (some ⟨g, 0, none⟩) 1 c2)))]) (S2 := _) rfl (knownC b41 b39 g c2 c aw A a _) (fun t S h => h) ?_
    refine AWL.unguard rfl rfl rfl rfl ?_
    refine Y1 (Yv.eql rfl eV eV) ?_
    refine Y1 (Yv.pickAnd rfl (E rfl rfl) (E rfl rfl)) ?_
    refine Y1 (Yv.move rfl eV) ?_
    refine AWL.unguard rfl rfl rfl rfl ?_
    refine Y1 (Yv.move rfl eV) ?_
    refine AWL.unguard rfl rfl rfl rfl ?_
    refine AWL.callK rfl rfl (B rfl) rfl ce_16 (E rfl rfl) (evsC (E rfl rfl) evs0) (S1 := [Ent.box b41 80 (psC (ps2 (.v (.pointer (some aw))) (.v (.map (some b39))) (.v (.slice A 1 c))) (.v (.slice (some ⟨g, 0, none⟩) 1 c2)))]) (S2 := _) rfl (knownD b41 b39 g c2 c aw A a _) (fun t S h => h) ?_
    refine AWL.unguard rfl rfl rfl rfl ?_
    refine Y1 (Yv.eql rfl eV eV) ?_
    refine Y1 (Yv.pickAnd rfl (E rfl rfl) (E rfl rfl)) ?_
    refine Y1 (Yv.move rfl eV) ?_
    refine AWL.unguard rfl rfl rfl rfl ?_
    refine AWL.callT rfl rfl (B rfl) rfl ce_26 (E rfl rfl) evs0 (little26) ?_
    rintro t39 S39 rfl
    refine AWL.unguard rfl rfl rfl rfl ?_
    refine AWL.callT rfl rfl (B rfl) rfl ce_9 (E rfl rfl) (evsC (E rfl rfl) evs0) (knownE) ?_
    rintro t40 S40 rfl
    refine Y1 (Yv.pickAnd rfl (E rfl rfl) (E rfl rfl)) ?_
    refine Y1 (Yv.move rfl eV) ?_
    refine AWL.unguard rfl rfl rfl rfl ?_
    refine Y1 (Yv.buildS rfl sh_25 evp0 (fun _ => rfl)) ?_
    refine AWL.unguard rfl rfl rfl rfl ?_
    refine AWL.callT rfl rfl (B rfl) rfl ce_6 (E rfl rfl) (evsC (E rfl rfl) evs0) (knownF) ?_
    rintro t44 S44 rfl
    refine AWL.unguard rfl rfl rfl rfl ?_
    refine Y1 (Yv.eql rfl eV eV) ?_
    refine Y1 (Yv.pickAnd rfl (E rfl rfl) (E rfl rfl)) ?_
    refine Y1 (Yv.assign rfl eV) ?_
    refine nl ?_
    refine AW.ret (retI (.tmp rfl .nil) ?_)
    rfl

end Go.Proofs.Ytlfklgganokgdaa

namespace Go.Proofs.Ytlfklgganokgdaa
open Go Go.RowKit
set_option linter.unusedVariables false
set_option linter.unnecessarySimpa false
set_option linter.unusedSimpArgs false

noncomputable def strictP (p : Prog) : Bool := @decide (StrictP p) (Classical.propDecidable _)
theorem strictP_eq {p : Prog} {b : Bool} (h : b = true ↔ StrictP p) : b = strictP p := by
  unfold strictP
  cases b with
  | true => exact (@decide_eq_true _ (Classical.propDecidable _) (h.1 rfl)).symm
  | false => exact (@decide_eq_false _ (Classical.propDecidable _) (fun q => Bool.false_ne_true (h.2 q))).symm
theorem strictA (p : Prog) (hp : ProgIn p) : ACalls Try.prog 9 [.agg (progCells p)] [] (fun t S => t = bv (strictP p)) :=
  (Strict9 p hp).mono fun t S ⟨b, h, hb⟩ => by rw [h, strictP_eq hb]
theorem strictB (p : Prog) (hp : ProgIn p) : ACalls Try.prog 10 [.agg (progCells p)] [] (fun t S => t = bv (strictP p)) :=
  (Strict10 p hp).mono fun t S ⟨b, h, hb⟩ => by rw [h, strictP_eq hb]
set_option maxHeartbeats 4000000 in
theorem WordForms3 (p : Prog) (hp : ProgIn p) :
    ACalls Try.prog 3 [.agg (progCells p)] [] (fun t S => t = bv true) := by
  refine ACalls.intro Try.func3 rfl Try.ntmps3 (Nat.le_of_ble_eq_true rfl) rfl fun X w0 => ?_
  refine AW.rseq ?_
  refine AWL.boxOp rfl rfl (B rfl) rfl (E rfl rfl) rfl (fun b1 => ?_)
  refine Y1 (Yv.assign rfl eV) ?_
  refine nl ?_
  refine AW.rseqQ rfl (by kernel_rfl) ?_
  refine AWQ.y rfl rfl (B rfl) (Yv.loadBoxA rfl ag_25 (i := 0) rfl (E rfl rfl) rfl rfl) ?_
  refine AWQ.callP rfl rfl (B rfl) rfl ce_6 (E rfl rfl) (evsC (E rfl rfl) evs0) (Check6 p hp) (fun t S h => h) ?_
  refine AWQ.y rfl rfl (B rfl) (Yv.loadBoxA rfl ag_25 (i := 0) rfl (E rfl rfl) rfl rfl) ?_
  refine AWQ.callP rfl rfl (B rfl) rfl ce_7 (E rfl rfl) (evsC (E rfl rfl) evs0) (Check7 p hp) (fun t S h => h) ?_
  refine AWQ.y rfl rfl (B rfl) (Yv.eql rfl (E rfl rfl) (E rfl rfl)) ?_
  refine AWQ.y rfl rfl (B rfl) (Yv.move rfl (E rfl rfl)) ?_
  refine AWQ.ygT rfl rfl rfl rfl (B rfl) (Yv.loadBoxA rfl ag_25 (i := 0) rfl (E rfl rfl) rfl rfl) ?_
  refine AWQ.callPgT rfl rfl rfl rfl (B rfl) rfl ce_8 (E rfl rfl) (evsC (Eg rfl rfl id) evs0) (fun hg => size8 p hp) (fun t S h => h) ?_
  refine AWQ.ygT rfl rfl rfl rfl (B rfl) (Yv.gtr rfl (Eg rfl rfl id) (E rfl rfl)) ?_
  refine AWQ.ygT rfl rfl rfl rfl (B rfl) (Yv.move rfl (Eg rfl rfl id)) ?_
  refine AWQ.ygF rfl rfl rfl rfl (B rfl) (Yv.loadBoxA rfl ag_25 (i := 0) rfl (E rfl rfl) rfl rfl) ?_
  refine AWQ.callPgF rfl rfl rfl rfl (B rfl) rfl ce_9 (E rfl rfl) (evsC (Eg rfl rfl id) evs0) (fun hg => strictA p hp) (fun t S h => h) ?_
  refine AWQ.ygF rfl rfl rfl rfl (B rfl) (Yv.loadBoxA rfl ag_25 (i := 0) rfl (E rfl rfl) rfl rfl) ?_
  refine AWQ.callPgF rfl rfl rfl rfl (B rfl) rfl ce_10 (E rfl rfl) (evsC (Eg rfl rfl id) evs0) (fun hg => strictB p hp) (fun t S h => h) ?_
  refine AWQ.ygF rfl rfl rfl rfl (B rfl) (Yv.eqlB rfl bo_4 (Eg rfl rfl id) (Eg rfl rfl id)) ?_
  refine AWQ.ygT rfl rfl rfl rfl (B rfl) (Yv.pickOr (t := .const (.bool true)) rfl (Eg rfl rfl id) (Eg rfl rfl id)) ?_
  refine AWQ.y rfl rfl (B rfl) (Yv.pickAnd rfl (E rfl rfl) (Eg rfl rfl id)) ?_
  refine AWQ.y rfl rfl (B rfl) (Yv.move rfl (E rfl rfl)) ?_
  refine AWQ.callPgT rfl rfl rfl rfl (B rfl) rfl ce_11 (E rfl rfl) evs0 (fun hg => known11) (fun t S h => h) ?_
  refine AWQ.y rfl rfl (B rfl) (Yv.pickAnd rfl (E rfl rfl) (Eg rfl rfl id)) ?_
  refine AWQ.y rfl rfl (B rfl) (Yv.assign rfl (E rfl rfl)) ?_
  refine AWQ.nil ?_
  refine AW.ret (retI (.tmp rfl .nil) ?_)
  show T.v (.bool _) = T.v (.bool true)
  rw [check_eq]
  simp

end Go.Proofs.Ytlfklgganokgdaa

namespace Go.Proofs.Ytlfklgganokgdaa
open Go.ChangeShapes Go.WideShapes Go.ChangeAt Go Go.RowKit
theorem bulk_one {H : Type} (d : DataW H) : 1 ≤ Rows.uptoBulk d := by
  cases d with
  | lit l => cases l <;> simp [Rows.uptoBulk]
  | _ => simp [Rows.uptoBulk]
theorem bulk_append {H : Type} (l r : List (DataW H)) : Rows.uptoBulkAll (l ++ r) = Rows.uptoBulkAll l + Rows.uptoBulkAll r := by
  induction l with
  | nil => simp [Rows.uptoBulkAll]
  | cons x s ih => simp only [Rows.uptoBulkAll, List.cons_append, ih]; omega
theorem bound {H : Type} {l : List (DataW H)} (hk : Rows.uptoSmall H l = true) : Rows.uptoBulkAll l ≤ 1048576 := by
  simpa [Rows.uptoSmall] using hk
theorem cell_lt {w : World} {a : Addr} {v : Value} (h : w.cell? a = some v) : a.block < w.heap.size := by
  rcases Nat.lt_or_ge a.block w.heap.size with hn | hn
  · exact hn
  · simp [World.cell?, Array.getElem?_eq_none hn] at h
/-- A type opened: its cells read as the tree of some plain datum. -/
structure Opens (P : Program) (t : TypeId) {X : Type} (k : Nat) (cells : X → List T) (bulk : X → Nat) (ok : X → Prop) : Prop where
  size : P.cellsOf t = k
  one : ∀ {H : Type} {enc : TypeId × Value → H} {w : World} {base : Nat} {spare : Nat → Bool} {held : Bool} {fuel : Nat} {cs : List Value} {x : DataW H × List MemPlace},
    DataW.trod enc P w base spare held fuel t cs = some x → ∃ a, ok a ∧ VReps w [] (cells a) cs ∧ cs.length = k ∧ bulk a ≤ Rows.uptoBulk x.1
theorem Opens.turn {P : Program} {t : TypeId} {X Y : Type} {k : Nat} {cells : X → List T} {cells' : Y → List T} {bulk : X → Nat} {bulk' : Y → Nat} {ok : X → Prop} {ok' : Y → Prop} (h : Opens P t k cells bulk ok) (g : X → Y)
    (h1 : ∀ a, ok a → cells' (g a) = cells a ∧ bulk' (g a) ≤ bulk a ∧ ok' (g a)) : Opens P t k cells' bulk' ok' :=
  ⟨h.size, fun e => by
    obtain ⟨a, h2, h3, h4, h5⟩ := h.one e
    obtain ⟨h6, h7, h8⟩ := h1 a h2
    exact ⟨g a, h8, h6 ▸ h3, h4, Nat.le_trans h7 h5⟩⟩
theorem VReps.single {w : World} {L : List Nat} {t : T} {u : Value} (h : VRep w L t u) (h1 : u.oneCell' = true) : VReps w L [t] [u] := .cons h h1 .nil
theorem opens_int {P : Program} {t : TypeId} {k : IntKind} (ht : P.underlying t = some (.int k)) (hs : P.cellsOf t = 1) : Opens P t 1 (fun z : Int => [.v (.int k z)]) (fun _ => 1) (fun z => (Lit.int k z).wf = true) :=
  ⟨hs, fun e => by
    obtain ⟨n, rfl, rfl, h⟩ := DataW.trod_int ht e
    exact ⟨n, h, .single (.v _) rfl, rfl, bulk_one _⟩⟩
theorem opens_string {P : Program} {t : TypeId} (ht : P.underlying t = some .string) (hs : P.cellsOf t = 1) : Opens P t 1 (fun l : List UInt8 => [.v (.string ⟨l.toArray⟩)]) (fun l => l.length + 1) (fun l => l.length ≤ maxLen) :=
  ⟨hs, fun e => by
    obtain ⟨s, rfl, rfl, h⟩ := DataW.trod_string ht e
    exact ⟨s.data.toList, by simpa using h, .single (.v _) rfl, rfl, by simp [Rows.uptoBulk]⟩⟩
/-- The fields from a place on. -/
structure OpensF (P : Program) (fs : List Field) (o : Nat) {X : Type} (k : Nat) (cells : X → List T) (bulk : X → Nat) (ok : X → Prop) : Prop where
  all : ∀ {H : Type} {enc : TypeId × Value → H} {w : World} {base : Nat} {spare : Nat → Bool} {held : Bool} {n : Nat} {cs : List Value} {ys : List (DataW H × List MemPlace)},
    ys.length = fs.length → cs.length = o + k → (∀ (i : Nat) (f : Field), fs[i]? = some f → DataW.trod enc P w base spare held n f.type ((cs.drop f.offset).take (P.cellsOf f.type)) = ys[i]?) →
      ∃ a, ok a ∧ VReps w [] (cells a) (cs.drop o) ∧ bulk a ≤ Rows.uptoBulkAll (ys.map (·.1))
theorem opensF_nil {P : Program} {o : Nat} : OpensF P [] o 0 (fun _ : Unit => []) (fun _ => 0) (fun _ => True) :=
  ⟨fun {H enc w base spare held n cs ys} h1 h2 _ => ⟨(), trivial, by rw [List.drop_of_length_le (by omega)]; exact .nil, Nat.zero_le _⟩⟩
theorem opensF_cons {P : Program} {f : Field} {fs : List Field} {o k m : Nat} {X Y : Type} {cells : X → List T} {cells' : Y → List T} {bulk : X → Nat} {bulk' : Y → Nat} {ok : X → Prop} {ok' : Y → Prop} (h0 : Opens P f.type k cells bulk ok) (ho : f.offset = o)
    (h : OpensF P fs (o + k) m cells' bulk' ok') : OpensF P (f :: fs) o (k + m) (fun a : X × Y => cells a.1 ++ cells' a.2) (fun a => bulk a.1 + bulk' a.2) (fun a => ok a.1 ∧ ok' a.2) :=
  ⟨fun {H enc w base spare held n cs ys} h1 h2 h3 => by
    match ys, h1 with
    | y :: ys, h1 =>
      have e := h3 0 f rfl
      rw [ho, h0.size] at e
      simp only [List.getElem?_cons_zero] at e
      obtain ⟨a, q1, q2, q3, q4⟩ := h0.one e
      obtain ⟨b, r1, r2, r3⟩ := h.all (ys := ys) (cs := cs) (by simpa using h1) (by omega) (fun i g hg => by simpa using h3 (i + 1) g (by simpa using hg))
      refine ⟨(a, b), ⟨q1, r1⟩, ?_, by simp only [List.map_cons, Rows.uptoBulkAll]; omega⟩
      rw [← List.drop_drop] at r2
      have := q2.append r2
      rwa [List.take_append_drop] at this⟩
theorem opens_struct {P : Program} {t : TypeId} {fs : Array Field} {X : Type} {k : Nat} {cells : X → List T} {bulk : X → Nat} {ok : X → Prop} (ht : P.underlying t = some (.struct fs)) (hs : P.cellsOf t = k) (h : OpensF P fs.toList 0 k cells bulk ok) :
    Opens P t k cells (fun a => bulk a + 1) ok :=
  ⟨hs, fun e => by
    obtain ⟨xs, n, _, rfl, hl, hlen, hf⟩ := DataW.trod_struct ht e
    obtain ⟨a, h1, h2, h3⟩ := h.all (by simpa using hlen) (by omega) (fun i f hi => hf i f (by simpa using hi))
    exact ⟨a, h1, by simpa using h2, by omega, by simp only [Rows.uptoBulk]; omega⟩⟩
def sumBulk {X : Type} (bulk : X → Nat) (l : List X) : Nat := (l.map bulk).sum
theorem opens_slice {P : Program} {t e : TypeId} {X : Type} {k : Nat} {cells : X → List T} {bulk : X → Nat} {ok : X → Prop} (ht : P.underlying t = some (.slice e)) (hs : P.cellsOf t = 1) (hk : 0 < k) (h : Opens P e k cells bulk ok) :
    Opens P t 1 (fun l : List X => [.sl k (l.flatMap cells)]) (fun l => sumBulk bulk l + 1) (fun l => (∀ a ∈ l, ok a) ∧ l.length ≤ maxLen) :=
  ⟨hs, fun {H enc w base spare held fuel cs x} ex => by
    rcases Go.Deep.open_slice ht ex with ⟨rfl, rfl⟩ | ⟨a, len, cap, m, n, D, Pl, rfl, hb, hl, hm, hmm, rfl, hx⟩
    · exact ⟨[], ⟨fun a ha => (by cases ha), Nat.zero_le _⟩, .single (.sl0 (Nat.zero_le _)) rfl, rfl, by simp [sumBulk, Rows.uptoBulk]⟩
    · have hlm : len ≤ m := by rw [hmm]; split <;> omega
      rw [h.size] at hx
      have key : ∀ q, q ≤ len → ∃ (l : List X) (us : List Value), l.length = q ∧ us.length = q * k ∧ VReps w [] (l.flatMap cells) us ∧ (∀ j u, us[j]? = some u → w.cell? (a.add j) = some u) ∧ (∀ a ∈ l, ok a) ∧
          sumBulk bulk l ≤ Rows.uptoBulkAll ((List.range q).map D) := by
        intro q
        induction q with
        | zero => exact fun _ => ⟨[], [], rfl, by simp, .nil, fun j u hu => by simp at hu, fun a ha => (by cases ha), by simp [sumBulk]⟩
        | succ q ih =>
          intro hq
          obtain ⟨l, us, h1, h2, h3, h4, h5, h6⟩ := ih (by omega)
          obtain ⟨cs', h7, h8⟩ := hx q (by omega)
          obtain ⟨a', h9, h10, h11, h12⟩ := h.one h8
          obtain ⟨_, _, h13⟩ := World.cells?_some h7
          refine ⟨l ++ [a'], us ++ cs', by simp [h1], ?_, ?_, ?_, ?_, ?_⟩
          · rw [List.length_append, h2, h11, Nat.succ_mul]
          · rw [List.flatMap_append]
            simpa using h3.append h10
          · intro j u hu
            by_cases hj : j < us.length
            · rw [List.getElem?_append_left hj] at hu
              exact h4 j u hu
            · rw [List.getElem?_append_right (by omega)] at hu
              have hjl := (List.getElem?_eq_some_iff.1 hu).1
              have := h13 (j - us.length) (by omega)
              rw [add_add', hu] at this
              rw [← this]
              congr 2
              omega
          · intro y hy
            rcases List.mem_append.1 hy with hy | hy
            · exact h5 y hy
            · rcases List.mem_singleton.1 hy with rfl
              exact h9
          · rw [List.range_succ, List.map_append, bulk_append]
            simp only [sumBulk, List.map_append, List.sum_append, List.map_cons, List.map_nil, List.sum_cons, List.sum_nil, Rows.uptoBulkAll] at h6 h12 ⊢
            omega
      obtain ⟨l, us, h1, h2, h3, h4, h5, h6⟩ := key len (Nat.le_refl _)
      refine ⟨l, ⟨h5, by omega⟩, .single ?_ rfl, rfl, by simp only [Rows.uptoBulk]; omega⟩
      rcases Nat.eq_zero_or_pos len with rfl | hpos
      · rw [List.eq_nil_of_length_eq_zero h1]
        exact .sl0 hm
      · have hlu := h3.len
        have hup : 0 < us.length := by rw [h2]; exact Nat.mul_pos hpos hk
        have hc0 := h4 0 _ (List.getElem?_eq_getElem hup)
        exact .sl hpos (by rw [hlu, h2]) hlu hl hm (by have := cell_lt hc0; rwa [block_add] at this) (by simp) h4 h3.at_ h3.one⟩
/-- A byte as a number. -/
def byteOfInt (z : Int) : UInt8 := UInt8.ofNat z.toNat
theorem byteOfInt_back {z : Int} (h : (Lit.int .u8 z).wf = true) : ((byteOfInt z).toNat : Int) = z := by
  have hx : 0 ≤ z ∧ z ≤ 255 := by simpa [Lit.wf, IntKind.min, IntKind.max, IntKind.signed, IntKind.bits] using h
  unfold byteOfInt
  rw [UInt8.toNat_ofNat']
  omega
theorem sumBulk_one {X : Type} : ∀ (l : List X), sumBulk (fun _ => 1) l = l.length
  | [] => rfl
  | _ :: r => by have := sumBulk_one r; simp only [sumBulk, List.map_cons, List.sum_cons, List.length_cons] at this ⊢; omega
theorem flat_one {X : Type} (f : X → T) : ∀ (l : List X), l.flatMap (fun a => [f a]) = l.map f
  | [] => rfl
  | _ :: r => by simp [flat_one f r]
theorem opens_bytes {P : Program} {t e : TypeId} (ht : P.underlying t = some (.slice e)) (hs : P.cellsOf t = 1) (he : P.underlying e = some (.int .u8)) (hs' : P.cellsOf e = 1) :
    Opens P t 1 (fun l : List UInt8 => [.sl 1 (l.map fun b => .v (.int .u8 b.toNat))]) (fun l => l.length + 1) (fun l => l.length ≤ maxLen) :=
  (opens_slice ht hs (by decide) (opens_int he hs')).turn (fun l => l.map byteOfInt) (fun l hl => ⟨by
      rw [flat_one, List.map_map]
      congr 2
      refine List.map_congr_left fun z hz => ?_
      simp only [Function.comp]
      rw [byteOfInt_back (hl.1 z hz)], by simp [sumBulk_one], by simpa using hl.2⟩)
/-- An argument of a struct's type. -/
theorem Opens.agg {P : Program} {t : TypeId} {fs : Array Field} {X : Type} {k : Nat} {cells : X → List T} {bulk : X → Nat} {ok : X → Prop} (h : Opens P t k cells bulk ok) (ht : P.underlying t = some (.struct fs))
    {H : Type} {enc : TypeId × Value → H} {w : World} {base b0 : Nat} {r : Reach} {spare : Nat → Bool} {held : Bool} {v : Value} {d : DataW H} {p : List MemPlace} (hv : Value.okWide P w r b0 t v) (e : DataW.Trod enc P w base spare held t v d p) :
    ∃ a, ok a ∧ VRep w [] (.agg (cells a)) v ∧ bulk a ≤ Rows.uptoBulk d := by
  obtain ⟨cs, rfl, hsz⟩ := okWide_struct ht hv
  obtain ⟨fuel, hf⟩ := e
  obtain ⟨a, h1, h2, h3, h4⟩ := h.one hf
  simp only [Value.cells] at h2 h3
  exact ⟨a, h1, by
    have := VRep.agg h2.len h2.at_ h2.one
    simpa using this, h4⟩
/-- An argument of a slice's type. -/
theorem Opens.row {P : Program} {t e : TypeId} {X : Type} {cell : X → T} {bulk : X → Nat} {ok : X → Prop} (h : Opens P t 1 (fun a => [cell a]) bulk ok) (ht : P.underlying t = some (.slice e))
    {H : Type} {enc : TypeId × Value → H} {w : World} {base b0 : Nat} {r : Reach} {spare : Nat → Bool} {held : Bool} {v : Value} {d : DataW H} {p : List MemPlace} (hv : Value.okWide P w r b0 t v) (e : DataW.Trod enc P w base spare held t v d p) :
    ∃ a, ok a ∧ VRep w [] (cell a) v ∧ bulk a ≤ Rows.uptoBulk d := by
  obtain ⟨A, l, c, rfl⟩ := okWide_slice ht hv
  obtain ⟨fuel, hf⟩ := e
  obtain ⟨a, h1, h2, h3, h4⟩ := h.one hf
  simp only [Value.cells] at h2 h3
  exact ⟨a, h1, h2.at_ 0 _ _ rfl rfl, h4⟩
end Go.Proofs.Ytlfklgganokgdaa

namespace Go.Proofs.Ytlfklgganokgdaa
open Go.ChangeShapes Go.WideShapes Go.ChangeAt Go Go.RowKit
set_option linter.unusedVariables false
set_option linter.unusedSimpArgs false
theorem laidOut : laidOutB Try.prog = true := by kernel_rfl
theorem opens9 : Opens Try.prog 9 1 (fun l : List UInt8 => [sv l]) (fun l => l.length + 1) (fun l => l.length ≤ maxLen) := opens_string Try.underlying9 (by kernel_rfl)
theorem opens3 : Opens Try.prog 3 1 (fun z : Int => [zi z]) (fun _ => 1) (fun z => (Lit.int .i64 z).wf = true) := opens_int Try.underlying3 (by kernel_rfl)
theorem opens2 : Opens Try.prog 2 1 (fun z : Int => [zi z]) (fun _ => 1) (fun z => (Lit.int .i64 z).wf = true) := opens_int Try.underlying2 (by kernel_rfl)
theorem int_i64 {z : Int} (h : (Lit.int .i64 z).wf = true) : -9223372036854775808 ≤ z ∧ z ≤ 9223372036854775807 := by simpa [Lit.wf, IntKind.min, IntKind.max, IntKind.signed, IntKind.bits] using h
theorem sum_mem {X : Type} {f : X → Nat} {l : List X} {s : X} (h : s ∈ l) : f s ≤ sumBulk f l := by
  induction l with
  | nil => cases h
  | cons x r ih =>
    simp only [sumBulk, List.map_cons, List.sum_cons] at ih ⊢
    rcases List.mem_cons.1 h with rfl | h
    · omega
    · have := ih h; omega
theorem sum_le {X : Type} {f g : X → Nat} (h : ∀ x, f x ≤ g x) (l : List X) : sumBulk f l ≤ sumBulk g l := by
  induction l with
  | nil => exact Nat.le_refl _
  | cons x r ih =>
    simp only [sumBulk, List.map_cons, List.sum_cons] at ih ⊢
    have := h x; omega
theorem sum_len {X : Type} {f : X → Nat} (h : ∀ x, 1 ≤ f x) (l : List X) : l.length ≤ sumBulk f l := by
  have := sum_le (f := fun _ : X => 1) h l
  rwa [sumBulk_one] at this
theorem opens47 : Opens Try.prog 47 1 (fun l : List Int => [.sl 1 (l.map zi)]) (fun l => l.length + 1) (fun l => ∀ z ∈ l, (Lit.int .i64 z).wf = true) :=
  (opens_slice Try.underlying47 (by kernel_rfl) (by decide) opens3).turn (fun l => l) (fun l h => ⟨by rw [flat_one], by rw [sumBulk_one]; omega, h.1⟩)
def insBulk (i : Ins) : Nat := i.args.length + 12
def InsWf (i : Ins) : Prop := -9223372036854775808 ≤ i.imm ∧ i.imm ≤ 9223372036854775807
theorem opens58 : Opens Try.prog 58 11 insCells insBulk InsWf :=
  (opens_struct Try.underlying58 (by kernel_rfl) (opensF_cons opens3 rfl (opensF_cons opens3 rfl (opensF_cons opens3 rfl (opensF_cons opens3 rfl (opensF_cons opens3 rfl (opensF_cons opens3 rfl (opensF_cons opens3 rfl (opensF_cons opens3 rfl (opensF_cons opens3 rfl (opensF_cons opens2 rfl (opensF_cons opens47 rfl opensF_nil)))))))))))).turn
    (fun a => (⟨a.1, a.2.1, a.2.2.1, a.2.2.2.1, a.2.2.2.2.1, a.2.2.2.2.2.1, a.2.2.2.2.2.2.1, a.2.2.2.2.2.2.2.1, a.2.2.2.2.2.2.2.2.1, a.2.2.2.2.2.2.2.2.2.1, a.2.2.2.2.2.2.2.2.2.2.1⟩ : Ins))
    (fun a h => by
      obtain ⟨_, _, _, _, _, _, _, _, _, h10, _⟩ := h
      exact ⟨rfl, by simp only [insBulk]; omega, int_i64 h10⟩)
theorem opens49 : Opens Try.prog 49 1 (fun l : List Ins => [.sl 11 (l.flatMap insCells)]) (fun l => sumBulk insBulk l + 1) (fun l => (∀ i ∈ l, InsWf i) ∧ l.length ≤ maxLen) := opens_slice Try.underlying49 (by kernel_rfl) (by decide) opens58
def fnBulk (f : Fn) : Nat := f.name.length + sumBulk insBulk f.code + 6
def FnWf (f : Fn) : Prop := (-9223372036854775808 ≤ f.regs ∧ f.regs ≤ 9223372036854775807) ∧ ∀ i ∈ f.code, InsWf i
theorem opens51 : Opens Try.prog 51 5 fnCells fnBulk FnWf :=
  (opens_struct Try.underlying51 (by kernel_rfl) (opensF_cons opens9 rfl (opensF_cons opens3 rfl (opensF_cons opens3 rfl (opensF_cons opens3 rfl (opensF_cons opens49 rfl opensF_nil)))))).turn
    (fun a => (⟨a.1, a.2.1, a.2.2.1, a.2.2.2.1, a.2.2.2.2.1⟩ : Fn))
    (fun a h => by
      obtain ⟨_, _, h3, _, h5, _⟩ := h
      exact ⟨rfl, by simp only [fnBulk]; omega, int_i64 h3, h5.1⟩)
theorem opens22 : Opens Try.prog 22 1 (fun l : List Fn => [.sl 5 (l.flatMap fnCells)]) (fun l => sumBulk fnBulk l + 1) (fun l => (∀ f ∈ l, FnWf f) ∧ l.length ≤ maxLen) := opens_slice Try.underlying22 (by kernel_rfl) (by decide) opens51
theorem opens23 : Opens Try.prog 23 1 (fun l : List UInt8 => [.sl 1 (l.map u8)]) (fun l => l.length + 1) (fun l => l.length ≤ maxLen) := opens_bytes Try.underlying23 (by kernel_rfl) Try.underlying5 (by kernel_rfl)
def progBulk (p : Prog) : Nat := sumBulk fnBulk p.funs + p.data.length
def ProgWf (p : Prog) : Prop := (∀ f ∈ p.funs, FnWf f) ∧ -9223372036854775808 ≤ p.zero ∧ p.zero ≤ 9223372036854775807
theorem opens25 : Opens Try.prog 25 3 progCells progBulk ProgWf :=
  (opens_struct Try.underlying25 (by kernel_rfl) (opensF_cons opens22 rfl (opensF_cons opens23 rfl (opensF_cons opens3 rfl opensF_nil)))).turn
    (fun a => (⟨a.1, a.2.1, a.2.2.1⟩ : Prog))
    (fun a h => by
      obtain ⟨h1, _, h3, _⟩ := h
      exact ⟨rfl, by simp only [progBulk]; omega, h1.1, int_i64 h3⟩)
theorem sum_code (l : List Fn) : (l.map fun f => f.code.length).sum ≤ sumBulk fnBulk l :=
  sum_le (f := fun f : Fn => f.code.length) (fun f => by
    have := sum_len (f := insBulk) (fun i => by simp only [insBulk]; omega) f.code
    simp only [fnBulk]; omega) l
theorem progIn_of {p : Prog} (h : ProgWf p) (hb : progBulk p ≤ 1048576) : ProgIn p := by
  have h1 := sum_code p.funs
  have h2 := sum_len (f := fnBulk) (fun f => by simp only [fnBulk]; omega) p.funs
  simp only [progBulk] at hb
  refine ⟨by omega, by omega, fun f hf => ?_, by omega, h.2.1, h.2.2⟩
  have h3 := sum_mem (f := fnBulk) hf
  have h4 := sum_len (f := insBulk) (fun i => by simp only [insBulk]; omega) f.code
  have h5 := h.1 f hf
  simp only [fnBulk] at h3
  refine ⟨h5.1.1, h5.1.2, by omega, fun i hi => ?_⟩
  have h6 := sum_mem (f := insBulk) hi
  simp only [insBulk] at h6
  exact ⟨(h5.2 i hi).1, (h5.2 i hi).2, by omega⟩
section
variable {H : Type} {enc : TypeId × Value → H} {w : World} {base b0 : Nat} {spare : Nat → Bool} {held : Bool} {v : Value} {d : DataW H} {p : List MemPlace}
set_option maxRecDepth 100000 in
theorem open_prog (hv : Value.okWide Try.prog w .any b0 25 v) (e : DataW.Trod enc Try.prog w base spare held 25 v d p) : ∃ x : Prog, ProgWf x ∧ VRep w [] (.agg (progCells x)) v ∧ progBulk x ≤ Rows.uptoBulk d := opens25.agg Try.underlying25 hv e
end
end Go.Proofs.Ytlfklgganokgdaa
