/-
  TEXTS JOINED: Wk14, Jmp, Each, Kinds, Wk15, RText, WkE, Aw14, Open.
-/
import Derived.Test.YtjndpakhmgapjaaDoorRows
import Derived.ProofKit
import Derived.OpenShut
import Derived.JoinedCond
import Derived.Carry
import Derived.Deep.Slices
import Derived.Test.YtjndpakhmgapjaaDoorEe
set_option linter.unusedSimpArgs false
set_option linter.unusedVariables false
set_option linter.unusedSectionVars false
set_option linter.unnecessarySimpa false
namespace Go.Proofs.YtjndpakhmgapjaaDoor
open Go Go.RowKit
set_option linter.unusedVariables false
set_option linter.unnecessarySimpa false
set_option linter.unusedSimpArgs false

set_option maxHeartbeats 4000000 in
theorem bytes62 (f : FormF) (i : Ins) (hf : FormOk f) (hd : 0 ≤ i.d ∧ i.d ≤ 15) (hs : 0 ≤ i.s ∧ i.s ≤ 15) (hc : 0 ≤ i.cond ∧ i.cond ≤ 15) :
    ACalls Tryd.prog 25 [formT f, insT i] [] fun t_ S => t_ = u8s (bytesF f i) := by
  have hu := at_range (f := f) hd hs 1
  have hb2 := at_range (f := f) hd hs 2
  have hb3 := at_range (f := f) hd hs 3
  obtain ⟨hf1, hf2, hf3, hf4, hf5, hf6⟩ := hf
  obtain ⟨hl0, hl1, hl2, hl3, hl4⟩ := bits_len f i
  have hbase : baseF f i = atF f i 2 + atF f i 3 := rfl
  have hupf : upF f i = atF f i 1 := rfl
  have hrx : 0 ≤ regX f i ∧ regX f i ≤ 7 := by
    unfold regX
    split <;> omega
  have hsz := sizeR_le f.imm
  refine ACalls.intro Tryd.func25 rfl Tryd.ntmps25 (Nat.le_of_ble_eq_true rfl) rfl fun X w0 => ?_
  refine AW.rseq ?_
  refine AWL.boxOp rfl rfl (B rfl) rfl (E rfl rfl) rfl (fun b2 => ?_)
  refine AWL.boxOp rfl rfl (B rfl) rfl (E rfl rfl) rfl (fun b3 => ?_)
  refine AWL.y rfl rfl (B rfl) (Yv.assign rfl (E rfl rfl)) ?_
  refine AWL.nil ?_
  refine AW.rseq ?_
  refine AWL.y rfl rfl (B rfl) (Yv.assign rfl (E rfl rfl)) ?_
  refine AWL.nil ?_
  refine AW.rowNil 5 1 ?_
  refine AW.mid (α := Option Addr × Nat) (fun q => [(2, true, .v (.pointer (some ⟨b2, 0, none⟩))), (3, true, .v (.pointer (some ⟨b3, 0, none⟩))), (5, true, .v (.slice q.1 (r0 f).length q.2))]) (fun q => [.box b2 45 (formCells f), .box b3 23 (insCells i), Ent.row q.1 (r0 f).length q.2 5 1 ((r0 f).map u8)]) (fun _ => True) ?_ ?_
  ·
   refine AW.rseq ?_
   refine AWL.y rfl rfl (B rfl) (Yv.fieldBox rfl fo_45_2 (E rfl rfl)) ?_
   refine AWL.y rfl rfl (B rfl) (Yv.loadBox rfl ag_3 (i := 0) rfl (E rfl rfl) rfl) ?_
   refine AWL.y rfl rfl (B rfl) (Yv.gtr rfl (E rfl rfl) (E rfl rfl)) ?_
   refine AWL.nil ?_
   refine AW.cond rfl (fun h0t => ?_) (fun h0f => ?_)
   ·
    try replace h0t := of_decide_eq_true h0t
    refine AW.region ?_
    refine AWL.y rfl rfl (B rfl) (Yv.move rfl (E rfl rfl)) ?_
    refine AWL.y rfl rfl (B rfl) (Yv.fieldBox rfl fo_45_2 (E rfl rfl)) ?_
    refine AWL.y rfl rfl (B rfl) (Yv.loadBox rfl ag_3 (i := 0) rfl (E rfl rfl) rfl) ?_
    refine AWL.y rfl rfl (B rfl) (Yv.conv rfl Tryd.underlying3 kd_5 (E rfl rfl)) ?_
    refine AWL.buildSlice1 rfl rfl (B rfl) rfl el_24 rfl (evsC (E rfl rfl) evs0) (Nat.le_of_ble_eq_true rfl) rfl rfl ?_
    refine AWL.appendRow (i := 2) rfl rfl (B rfl) rfl el_24 (B rfl) rfl (E rfl rfl) (SrcT.sl so_24 (B rfl) (E rfl rfl) rfl) (by unfold maxLen; omega) (by omega) (fun A22 c22 => ?_)
    refine AWL.y rfl rfl (B rfl) (Yv.assign rfl (E rfl rfl)) ?_
    refine AWL.nil ?_
    obtain ⟨hL, hM⟩ := r0_yes h0t
    refine ⟨⟨A22, c22⟩, trivial, (Sub.cons rfl rfl (Sub.cons rfl rfl (Sub.cons rfl (by rw [hL] <;> rfl) Sub.nil))), ?_⟩
    rw [hL, hM]
    rfl
   try replace h0f := of_decide_eq_false h0f
   refine AW.skip ?_
   have hN := r0_no h0f
   refine ⟨⟨none, 0⟩, trivial, (Sub.cons rfl rfl (Sub.cons rfl rfl (Sub.cons rfl (by rw [hN] <;> rfl) Sub.nil))), ?_⟩
   rw [hN] <;> rfl
  ·
   rintro ⟨A, c⟩ hmid
   refine AW.rseq ?_
   refine AWL.y rfl rfl (B rfl) (Yv.loadBoxA rfl ag_45 (i := 0) rfl (E rfl rfl) rfl rfl) ?_
   refine AWL.y rfl rfl (B rfl) (Yv.loadBoxA rfl ag_23 (i := 1) rfl (E rfl rfl) rfl rfl) ?_
   refine AWL.callT rfl rfl (B rfl) rfl ce_54 (E rfl rfl) (evsC (E rfl rfl) (evsC (E rfl rfl) (evsC (E rfl rfl) evs0))) (at71 f i 1) ?_
   rintro t25 S25 rfl
   refine AWL.y rfl rfl (B rfl) (Yv.assign rfl (E rfl rfl)) ?_
   refine AWL.nil ?_
   refine AW.mid (α := Unit) (fun _ => [(2, true, .v (.pointer (some ⟨b2, 0, none⟩))), (3, true, .v (.pointer (some ⟨b3, 0, none⟩))), (5, true, .v (.slice A (r0 f).length c)), (6, true, .v (.int .i64 (upF f i))), (7, true, .v (.int .i64 (baseF f i)))]) (fun _ => [.box b2 45 (formCells f), .box b3 23 (insCells i), Ent.row A (r0 f).length c 5 1 ((r0 f).map u8)]) (fun _ => True) ?_ ?_
   ·
    refine AW.regionH (HeldBox b3 (insVals i)) rfl (tells_box (k := 1) rfl) ?_
    refine AWH.tk (i := 1) rfl rfl rfl (B rfl) (heldLoadA rfl ag_23 (E rfl rfl) rfl rfl rfl rfl) ?_
    refine AWH.tk (i := 4) rfl rfl rfl (B rfl) (heldLoadA rfl ag_23 (E rfl rfl) rfl rfl rfl rfl) ?_
    refine AWH.two (i := 0) (j := 3) (by kernel_rfl) rfl rfl ?_ ?_
    ·
     refine AWL.y rfl rfl (B rfl) (Yv.loadBoxA rfl ag_45 (i := 0) rfl (E rfl rfl) rfl rfl) ?_
     refine tb 1 rfl ?_
     refine AWH.two (i := 2) (j := 3) (by kernel_rfl) rfl rfl ?_ ?_
     ·
      refine AWL.callP rfl rfl (B rfl) rfl ce_54 (E rfl rfl) (evsC (E rfl rfl) (evsC (E rfl rfl) (evsC (E rfl rfl) evs0))) (at71 f i 2) (fun t S h => h) ?_
      refine tb 1 rfl ?_
      refine AWH.one (i := 3) (by kernel_rfl) rfl ?_
      refine AWL.y rfl rfl (B rfl) (Yv.loadBoxA rfl ag_45 (i := 0) rfl (E rfl rfl) rfl rfl) ?_
      refine tb 1 rfl ?_
      refine AWH.one (i := 5) (by kernel_rfl) rfl ?_
      refine AWL.callP rfl rfl (B rfl) rfl ce_54 (E rfl rfl) (evsC (E rfl rfl) (evsC (E rfl rfl) (evsC (E rfl rfl) evs0))) (at71 f i 3) (fun t S h => h) ?_
      refine tb 1 rfl ?_
      refine AWH.one (i := 6) (by kernel_rfl) rfl ?_
      refine AWL.y rfl rfl (B rfl) (Yv.addN_i64 rfl (E rfl rfl) (E rfl rfl) (fun hg => by omega)) ?_
      refine tb 1 rfl ?_
      refine AWH.one (i := 7) (by kernel_rfl) rfl ?_
      refine AWL.y rfl rfl (B rfl) (Yv.assign rfl (E rfl rfl)) ?_
      refine tb 1 rfl ?_
      refine AWH.done (by kernel_rfl) ?_
      exact ⟨(), trivial, (Sub.cons rfl rfl (Sub.cons rfl rfl (Sub.cons rfl rfl (Sub.cons rfl rfl (Sub.cons rfl rfl Sub.nil))))), rfl⟩
     ·
      refine AWL.y rfl rfl (B rfl) (Yv.loadBoxA rfl ag_45 (i := 0) rfl (E rfl rfl) rfl rfl) ?_
      refine tb 1 rfl ?_
      refine AWH.one (i := 2) (by kernel_rfl) rfl ?_
      refine AWL.callP rfl rfl (B rfl) rfl ce_54 (E rfl rfl) (evsC (E rfl rfl) (evsC (E rfl rfl) (evsC (E rfl rfl) evs0))) (at71 f i 2) (fun t S h => h) ?_
      refine tb 1 rfl ?_
      refine AWH.one (i := 5) (by kernel_rfl) rfl ?_
      refine AWL.callP rfl rfl (B rfl) rfl ce_54 (E rfl rfl) (evsC (E rfl rfl) (evsC (E rfl rfl) (evsC (E rfl rfl) evs0))) (at71 f i 3) (fun t S h => h) ?_
      refine tb 1 rfl ?_
      refine AWH.one (i := 6) (by kernel_rfl) rfl ?_
      refine AWL.y rfl rfl (B rfl) (Yv.addN_i64 rfl (E rfl rfl) (E rfl rfl) (fun hg => by omega)) ?_
      refine tb 1 rfl ?_
      refine AWH.one (i := 7) (by kernel_rfl) rfl ?_
      refine AWL.y rfl rfl (B rfl) (Yv.assign rfl (E rfl rfl)) ?_
      refine tb 1 rfl ?_
      refine AWH.done (by kernel_rfl) ?_
      exact ⟨(), trivial, (Sub.cons rfl rfl (Sub.cons rfl rfl (Sub.cons rfl rfl (Sub.cons rfl rfl (Sub.cons rfl rfl Sub.nil))))), rfl⟩
    ·
     refine AWL.y rfl rfl (B rfl) (Yv.loadBoxA rfl ag_45 (i := 0) rfl (E rfl rfl) rfl rfl) ?_
     refine tb 1 rfl ?_
     refine AWH.one (i := 0) (by kernel_rfl) rfl ?_
     refine AWL.y rfl rfl (B rfl) (Yv.loadBoxA rfl ag_45 (i := 0) rfl (E rfl rfl) rfl rfl) ?_
     refine tb 1 rfl ?_
     refine AWH.one (i := 2) (by kernel_rfl) rfl ?_
     refine AWL.callP rfl rfl (B rfl) rfl ce_54 (E rfl rfl) (evsC (E rfl rfl) (evsC (E rfl rfl) (evsC (E rfl rfl) evs0))) (at71 f i 2) (fun t S h => h) ?_
     refine tb 1 rfl ?_
     refine AWH.one (i := 5) (by kernel_rfl) rfl ?_
     refine AWL.callP rfl rfl (B rfl) rfl ce_54 (E rfl rfl) (evsC (E rfl rfl) (evsC (E rfl rfl) (evsC (E rfl rfl) evs0))) (at71 f i 3) (fun t S h => h) ?_
     refine tb 1 rfl ?_
     refine AWH.one (i := 6) (by kernel_rfl) rfl ?_
     refine AWL.y rfl rfl (B rfl) (Yv.addN_i64 rfl (E rfl rfl) (E rfl rfl) (fun hg => by omega)) ?_
     refine tb 1 rfl ?_
     refine AWH.one (i := 7) (by kernel_rfl) rfl ?_
     refine AWL.y rfl rfl (B rfl) (Yv.assign rfl (E rfl rfl)) ?_
     refine tb 1 rfl ?_
     refine AWH.done (by kernel_rfl) ?_
     exact ⟨(), trivial, (Sub.cons rfl rfl (Sub.cons rfl rfl (Sub.cons rfl rfl (Sub.cons rfl rfl (Sub.cons rfl rfl Sub.nil))))), rfl⟩
   ·
    rintro _ hmid
    refine AW.mid (α := Option Addr × Nat) (fun q => [(2, true, .v (.pointer (some ⟨b2, 0, none⟩))), (3, true, .v (.pointer (some ⟨b3, 0, none⟩))), (5, true, .v (.slice q.1 (r1 f i).length q.2)), (6, true, .v (.int .i64 (upF f i))), (7, true, .v (.int .i64 (baseF f i)))]) (fun q => [.box b2 45 (formCells f), .box b3 23 (insCells i), Ent.row q.1 (r1 f i).length q.2 5 1 ((r1 f i).map u8)]) (fun _ => True) ?_ ?_
    ·
     refine AW.rseq ?_
     refine AWL.y rfl rfl (B rfl) (Yv.fieldBox rfl fo_45_3 (E rfl rfl)) ?_
     refine AWL.y rfl rfl (B rfl) (Yv.loadBox rfl ag_4 (i := 0) rfl (E rfl rfl) rfl) ?_
     refine AWL.nil ?_
     refine AW.cond rfl (fun h1t => ?_) (fun h1f => ?_)
     ·
      try replace h1t := of_decide_eq_true h1t
      refine AW.region ?_
      refine AWL.y rfl rfl (B rfl) (Yv.move rfl (E rfl rfl)) ?_
      refine AWL.y rfl rfl (B rfl) (Yv.fieldBox rfl fo_45_4 (E rfl rfl)) ?_
      refine AWL.y rfl rfl (B rfl) (Yv.loadBox rfl ag_3 (i := 0) rfl (E rfl rfl) rfl) ?_
      refine AWL.y rfl rfl (B rfl) (Yv.mulN_i64 rfl (E rfl rfl) (E rfl rfl) (fun hg => by omega)) ?_
      refine AWL.y rfl rfl (B rfl) (Yv.addN_i64 rfl (E rfl rfl) (E rfl rfl) (fun hg => by omega)) ?_
      refine AWL.y rfl rfl (B rfl) (Yv.move rfl (E rfl rfl)) ?_
      refine AWL.y rfl rfl (B rfl) (Yv.quoN_i64 rfl (E rfl rfl) (E rfl rfl) (fun hg => by omega)) ?_
      refine AWL.y rfl rfl (B rfl) (Yv.mulN_i64 rfl (E rfl rfl) (E rfl rfl) (fun hg => by omega)) ?_
      refine AWL.y rfl rfl (B rfl) (Yv.addN_i64 rfl (E rfl rfl) (E rfl rfl) (fun hg => by omega)) ?_
      refine AWL.y rfl rfl (B rfl) (Yv.move rfl (E rfl rfl)) ?_
      refine AWL.y rfl rfl (B rfl) (Yv.quoN_i64 rfl (E rfl rfl) (E rfl rfl) (fun hg => by omega)) ?_
      refine AWL.y rfl rfl (B rfl) (Yv.addN_i64 rfl (E rfl rfl) (E rfl rfl) (fun hg => by omega)) ?_
      refine AWL.y rfl rfl (B rfl) (Yv.conv rfl Tryd.underlying3 kd_5 (E rfl rfl)) ?_
      refine AWL.buildSlice1 rfl rfl (B rfl) rfl el_24 rfl (evsC (E rfl rfl) evs0) (Nat.le_of_ble_eq_true rfl) rfl rfl ?_
      refine AWL.appendRow (i := 2) rfl rfl (B rfl) rfl el_24 (B rfl) rfl (E rfl rfl) (SrcT.sl so_24 (B rfl) (E rfl rfl) rfl) (by unfold maxLen; omega) (by omega) (fun A49 c49 => ?_)
      refine AWL.y rfl rfl (B rfl) (Yv.assign rfl (E rfl rfl)) ?_
      refine AWL.nil ?_
      obtain ⟨hL, hM⟩ := r1_yes (i := i) h1t
      refine ⟨⟨A49, c49⟩, trivial, (Sub.cons rfl rfl (Sub.cons rfl rfl (Sub.cons rfl (by rw [hL] <;> rfl) (Sub.cons rfl rfl (Sub.cons rfl rfl Sub.nil))))), ?_⟩
      rw [hL, hM]
      rfl
     try replace h1f := of_decide_eq_false h1f
     refine AW.skip ?_
     have hN := r1_no (i := i) (ne_true_of_eq_false h1f)
     refine ⟨⟨A, c⟩, trivial, (Sub.cons rfl rfl (Sub.cons rfl rfl (Sub.cons rfl (by rw [hN]) (Sub.cons rfl rfl (Sub.cons rfl rfl Sub.nil))))), ?_⟩
     rw [hN] <;> rfl
    ·
     rintro ⟨A, c⟩ hmid
     refine AW.seq ?_
     refine AW.rseq ?_
     refine AWL.y rfl rfl (B rfl) (Yv.assign rfl (E rfl rfl)) ?_
     refine AWL.nil ?_
     refine AW.block ?_
     refine AW.loop3 (fun (j : Nat) (Ao : Option Addr) (co : Nat) => [(2, true, .v (.pointer (some ⟨b2, 0, none⟩))), (3, true, .v (.pointer (some ⟨b3, 0, none⟩))), (5, true, .v (.slice Ao (r2 f i j).length co)), (6, true, .v (.int .i64 (upF f i))), (7, true, .v (.int .i64 (baseF f i))), (8, true, .v (.int .i64 (j : Int)))]) (fun (j : Nat) (Ao : Option Addr) (co : Nat) => [.box b2 45 (formCells f), .box b3 23 (insCells i), Ent.row Ao (r2 f i j).length co 5 1 ((r2 f i j).map u8)]) (fun (j : Nat) (Ao : Option Addr) (co : Nat) => j ≤ f.op.length) (fun (j : Nat) (Ao : Option Addr) (co : Nat) => f.op.length - j) 0 A c ?_ ?_ ?_ ?_
     · exact Nat.zero_le _
     · exact (Sub.cons rfl rfl (Sub.cons rfl rfl (Sub.cons rfl (by rw [r2_zero]) (Sub.cons rfl rfl (Sub.cons rfl rfl (Sub.cons rfl rfl Sub.nil))))))
     · rw [r2_zero]
     ·
      intro j Ao co hinv
      have hlj := hl2 j
      refine AW.seq ?_
      refine AW.rseq ?_
      refine AWL.y rfl rfl (B rfl) (Yv.move rfl (E rfl rfl)) ?_
      refine AWL.y rfl rfl (B rfl) (Yv.fieldBox rfl fo_45_5 (E rfl rfl)) ?_
      refine AWL.y rfl rfl (B rfl) (Yv.loadBox rfl ag_43 (i := 0) rfl (E rfl rfl) rfl) ?_
      refine AWL.y rfl rfl (B rfl) (Yv.lenSl rfl so_43 (B rfl) (E rfl rfl) len_ints) ?_
      refine AWL.y rfl rfl (B rfl) (Yv.lss rfl (E rfl rfl) (E rfl rfl)) ?_
      refine AWL.nil ?_
      refine AW.cond rfl (fun h2t => ?_) (fun h2f => ?_)
      ·
       try replace h2t := of_decide_eq_true h2t
       have hjl : j < f.op.length := by omega
       obtain ⟨ho1, ho2, ho3, ho4⟩ := opX_range (i := i) ⟨hf1, hf2, hf3, hf4, hf5, hf6⟩ hc hjl
       refine AW.skip ?_
       refine AW.seq ?_
       refine AW.block ?_
       refine AW.rseq ?_
       refine AWL.y rfl rfl (B rfl) (Yv.fieldBox rfl fo_45_5 (E rfl rfl)) ?_
       refine AWL.y rfl rfl (B rfl) (Yv.loadBox rfl ag_43 (i := 0) rfl (E rfl rfl) rfl) ?_
       refine AWL.y rfl rfl (B rfl) (Yv.move rfl (E rfl rfl)) ?_
       refine AWL.y rfl rfl (B rfl) (Yv.indexSl rfl ss_43 (B rfl) (E rfl rfl) (E rfl rfl) (fun hg => ⟨rfl, (by first | omega | (simp only [len_ints, len_u8s]; omega))⟩)) ?_
       refine AWL.y rfl rfl (B rfl) (Yv.loadRp rfl ag_3 (E rfl rfl) (fun hg => ints_get (by omega))) ?_
       refine AWL.y rfl rfl (B rfl) (Yv.assign rfl (E rfl rfl)) ?_
       refine AWL.nil ?_
       refine AW.mid (α := Unit) (fun _ => [(2, true, .v (.pointer (some ⟨b2, 0, none⟩))), (3, true, .v (.pointer (some ⟨b3, 0, none⟩))), (5, true, .v (.slice Ao (r2 f i j).length co)), (6, true, .v (.int .i64 (upF f i))), (7, true, .v (.int .i64 (baseF f i))), (8, true, .v (.int .i64 (j : Int))), (9, true, .v (.int .i64 (opX f i j)))]) (fun _ => [.box b2 45 (formCells f), .box b3 23 (insCells i), Ent.row Ao (r2 f i j).length co 5 1 ((r2 f i j).map u8)]) (fun _ => True) ?_ ?_
       ·
        refine AW.rseq ?_
        refine AWL.y rfl rfl (B rfl) (Yv.move rfl (E rfl rfl)) ?_
        refine AWL.y rfl rfl (B rfl) (Yv.fieldBox rfl fo_45_5 (E rfl rfl)) ?_
        refine AWL.y rfl rfl (B rfl) (Yv.loadBox rfl ag_43 (i := 0) rfl (E rfl rfl) rfl) ?_
        refine AWL.y rfl rfl (B rfl) (Yv.lenSl rfl so_43 (B rfl) (E rfl rfl) len_ints) ?_
        refine AWL.y rfl rfl (B rfl) (Yv.subN_i64 rfl (E rfl rfl) (E rfl rfl) (fun hg => by omega)) ?_
        refine AWL.y rfl rfl (B rfl) (Yv.eql rfl (E rfl rfl) (E rfl rfl)) ?_
        refine AWL.y rfl rfl (B rfl) (Yv.move rfl (E rfl rfl)) ?_
        refine AWL.ygT rfl rfl rfl rfl (B rfl) (Yv.fieldBox rfl fo_45_10 (E rfl rfl)) ?_
        refine AWL.ygT rfl rfl rfl rfl (B rfl) (Yv.loadBox rfl ag_3 (i := 0) rfl (Eg rfl rfl id) rfl) ?_
        refine AWL.ygT rfl rfl rfl rfl (B rfl) (Yv.eql rfl (Eg rfl rfl id) (E rfl rfl)) ?_
        refine AWL.y rfl rfl (B rfl) (Yv.pickAnd rfl (E rfl rfl) (Eg rfl rfl id)) ?_
        refine AWL.nil ?_
        refine AW.cond rfl (fun h3t => ?_) (fun h3f => ?_)
        ·
         try replace h3t := of_decide_eq_true h3t
         refine AW.region ?_
         refine AWL.y rfl rfl (B rfl) (Yv.move rfl (E rfl rfl)) ?_
         refine AWL.y rfl rfl (B rfl) (Yv.fieldBox rfl fo_23_3 (E rfl rfl)) ?_
         refine AWL.y rfl rfl (B rfl) (Yv.loadBox rfl ag_3 (i := 1) rfl (E rfl rfl) rfl) ?_
         refine AWL.y rfl rfl (B rfl) (Yv.addN_i64 rfl (E rfl rfl) (E rfl rfl) (fun hg => by omega)) ?_
         refine AWL.y rfl rfl (B rfl) (Yv.assign rfl (E rfl rfl)) ?_
         refine AWL.nil ?_
         refine ⟨(), trivial, (Sub.cons rfl rfl (Sub.cons rfl rfl (Sub.cons rfl rfl (Sub.cons rfl rfl (Sub.cons rfl rfl (Sub.cons rfl rfl (Sub.cons rfl (by rw [opX, if_pos h3t]) Sub.nil))))))), rfl⟩
        try replace h3f := of_decide_eq_false h3f
        refine AW.skip ?_
        refine ⟨(), trivial, (Sub.cons rfl rfl (Sub.cons rfl rfl (Sub.cons rfl rfl (Sub.cons rfl rfl (Sub.cons rfl rfl (Sub.cons rfl rfl (Sub.cons rfl (by rw [opX, if_neg (ne_true_of_eq_false h3f), Int.add_zero]) Sub.nil))))))), rfl⟩
       ·
        rintro _ hmid
        refine AW.mid (α := Unit) (fun _ => [(2, true, .v (.pointer (some ⟨b2, 0, none⟩))), (3, true, .v (.pointer (some ⟨b3, 0, none⟩))), (5, true, .v (.slice Ao (r2 f i j).length co)), (6, true, .v (.int .i64 (upF f i))), (7, true, .v (.int .i64 (baseF f i))), (8, true, .v (.int .i64 (j : Int))), (9, true, .v (.int .i64 (opY f i j)))]) (fun _ => [.box b2 45 (formCells f), .box b3 23 (insCells i), Ent.row Ao (r2 f i j).length co 5 1 ((r2 f i j).map u8)]) (fun _ => True) ?_ ?_
        ·
         refine AW.rseq ?_
         refine AWL.y rfl rfl (B rfl) (Yv.move rfl (E rfl rfl)) ?_
         refine AWL.y rfl rfl (B rfl) (Yv.fieldBox rfl fo_45_5 (E rfl rfl)) ?_
         refine AWL.y rfl rfl (B rfl) (Yv.loadBox rfl ag_43 (i := 0) rfl (E rfl rfl) rfl) ?_
         refine AWL.y rfl rfl (B rfl) (Yv.lenSl rfl so_43 (B rfl) (E rfl rfl) len_ints) ?_
         refine AWL.y rfl rfl (B rfl) (Yv.subN_i64 rfl (E rfl rfl) (E rfl rfl) (fun hg => by omega)) ?_
         refine AWL.y rfl rfl (B rfl) (Yv.eql rfl (E rfl rfl) (E rfl rfl)) ?_
         refine AWL.y rfl rfl (B rfl) (Yv.move rfl (E rfl rfl)) ?_
         refine AWL.ygT rfl rfl rfl rfl (B rfl) (Yv.fieldBox rfl fo_45_8 (E rfl rfl)) ?_
         refine AWL.ygT rfl rfl rfl rfl (B rfl) (Yv.loadBox rfl ag_3 (i := 0) rfl (Eg rfl rfl id) rfl) ?_
         refine AWL.ygT rfl rfl rfl rfl (B rfl) (Yv.eql rfl (Eg rfl rfl id) (E rfl rfl)) ?_
         refine AWL.y rfl rfl (B rfl) (Yv.pickAnd rfl (E rfl rfl) (Eg rfl rfl id)) ?_
         refine AWL.nil ?_
         refine AW.cond rfl (fun h4t => ?_) (fun h4f => ?_)
         ·
          try replace h4t := of_decide_eq_true h4t
          refine AW.region ?_
          refine AWL.y rfl rfl (B rfl) (Yv.move rfl (E rfl rfl)) ?_
          refine AWL.y rfl rfl (B rfl) (Yv.fieldBox rfl fo_23_1 (E rfl rfl)) ?_
          refine AWL.y rfl rfl (B rfl) (Yv.loadBox rfl ag_3 (i := 1) rfl (E rfl rfl) rfl) ?_
          refine AWL.y rfl rfl (B rfl) (Yv.remN rfl (E rfl rfl) (E rfl rfl) (fun hg => by omega)) ?_
          refine AWL.y rfl rfl (B rfl) (Yv.addN_i64 rfl (E rfl rfl) (E rfl rfl) (fun hg => by omega)) ?_
          refine AWL.y rfl rfl (B rfl) (Yv.assign rfl (E rfl rfl)) ?_
          refine AWL.nil ?_
          refine ⟨(), trivial, (Sub.cons rfl rfl (Sub.cons rfl rfl (Sub.cons rfl rfl (Sub.cons rfl rfl (Sub.cons rfl rfl (Sub.cons rfl rfl (Sub.cons rfl (by rw [opY, if_pos h4t]) Sub.nil))))))), rfl⟩
         try replace h4f := of_decide_eq_false h4f
         refine AW.skip ?_
         refine ⟨(), trivial, (Sub.cons rfl rfl (Sub.cons rfl rfl (Sub.cons rfl rfl (Sub.cons rfl rfl (Sub.cons rfl rfl (Sub.cons rfl rfl (Sub.cons rfl (by rw [opY, if_neg (ne_true_of_eq_false h4f), Int.add_zero]) Sub.nil))))))), rfl⟩
        ·
         rintro _ hmid
         refine AW.region ?_
         refine AWL.y rfl rfl (B rfl) (Yv.move rfl (E rfl rfl)) ?_
         refine AWL.y rfl rfl (B rfl) (Yv.move rfl (E rfl rfl)) ?_
         refine AWL.y rfl rfl (B rfl) (Yv.conv rfl Tryd.underlying3 kd_5 (E rfl rfl)) ?_
         refine AWL.buildSlice1 rfl rfl (B rfl) rfl el_24 rfl (evsC (E rfl rfl) evs0) (Nat.le_of_ble_eq_true rfl) rfl rfl ?_
         refine AWL.appendRow (i := 2) rfl rfl (B rfl) rfl el_24 (B rfl) rfl (E rfl rfl) (SrcT.sl so_24 (B rfl) (E rfl rfl) rfl) (by unfold maxLen; omega) (by omega) (fun A97 c97 => ?_)
         refine AWL.y rfl rfl (B rfl) (Yv.assign rfl (E rfl rfl)) ?_
         refine AWL.nil ?_
         refine AW.region ?_
         refine AWL.y rfl rfl (B rfl) (Yv.move rfl (E rfl rfl)) ?_
         refine AWL.y rfl rfl (B rfl) (Yv.addN_i64 rfl (E rfl rfl) (E rfl rfl) (fun hg => by omega)) ?_
         refine AWL.y rfl rfl (B rfl) (Yv.assign rfl (E rfl rfl)) ?_
         refine AWL.nil ?_
         obtain ⟨hL, hM⟩ := r2_next f i j
         refine ⟨j + 1, A97, c97, by omega, by omega, Sub.cons rfl rfl (Sub.cons rfl rfl (Sub.cons rfl (by rw [hL] <;> rfl) (Sub.cons rfl rfl (Sub.cons rfl rfl (Sub.cons rfl (by simp) Sub.nil))))), ?_⟩
         rw [hL, hM]
         rfl
      try replace h2f := of_decide_eq_false h2f
      refine AW.exit ?_
      refine AW.mid (α := Option Addr × Nat) (fun q => [(2, true, .v (.pointer (some ⟨b2, 0, none⟩))), (3, true, .v (.pointer (some ⟨b3, 0, none⟩))), (5, true, .v (.slice q.1 (r3 f i).length q.2)), (6, true, .v (.int .i64 (upF f i))), (7, true, .v (.int .i64 (baseF f i)))]) (fun q => [.box b2 45 (formCells f), .box b3 23 (insCells i), Ent.row q.1 (r3 f i).length q.2 5 1 ((r3 f i).map u8)]) (fun _ => True) ?_ ?_
      ·
       obtain rfl : j = f.op.length := by omega
       refine AW.rseq ?_
       refine AWL.y rfl rfl (B rfl) (Yv.fieldBox rfl fo_45_6 (E rfl rfl)) ?_
       refine AWL.y rfl rfl (B rfl) (Yv.loadBox rfl ag_3 (i := 0) rfl (E rfl rfl) rfl) ?_
       refine AWL.y rfl rfl (B rfl) (Yv.geq rfl (E rfl rfl) (E rfl rfl)) ?_
       refine AWL.nil ?_
       refine AW.cond rfl (fun h5t => ?_) (fun h5f => ?_)
       ·
        try replace h5t := of_decide_eq_true h5t
        refine AW.rseq ?_
        refine AWL.y rfl rfl (B rfl) (Yv.move rfl (E rfl rfl)) ?_
        refine AWL.y rfl rfl (B rfl) (Yv.remN rfl (E rfl rfl) (E rfl rfl) (fun hg => by omega)) ?_
        refine AWL.y rfl rfl (B rfl) (Yv.assign rfl (E rfl rfl)) ?_
        refine AWL.nil ?_
        refine AW.mid (α := Unit) (fun _ => [(2, true, .v (.pointer (some ⟨b2, 0, none⟩))), (3, true, .v (.pointer (some ⟨b3, 0, none⟩))), (5, true, .v (.slice Ao (r2 f i f.op.length).length co)), (6, true, .v (.int .i64 (upF f i))), (7, true, .v (.int .i64 (baseF f i))), (10, true, .v (.int .i64 (regX f i)))]) (fun _ => [.box b2 45 (formCells f), .box b3 23 (insCells i), Ent.row Ao (r2 f i f.op.length).length co 5 1 ((r2 f i f.op.length).map u8)]) (fun _ => True) ?_ ?_
        ·
         refine AW.rseq ?_
         refine AWL.y rfl rfl (B rfl) (Yv.fieldBox rfl fo_45_8 (E rfl rfl)) ?_
         refine AWL.y rfl rfl (B rfl) (Yv.loadBox rfl ag_3 (i := 0) rfl (E rfl rfl) rfl) ?_
         refine AWL.y rfl rfl (B rfl) (Yv.neq rfl (E rfl rfl) (E rfl rfl)) ?_
         refine AWL.y rfl rfl (B rfl) (Yv.move rfl (E rfl rfl)) ?_
         refine AWL.ygT rfl rfl rfl rfl (B rfl) (Yv.fieldBox rfl fo_45_9 (E rfl rfl)) ?_
         refine AWL.ygT rfl rfl rfl rfl (B rfl) (Yv.loadBox rfl ag_3 (i := 0) rfl (Eg rfl rfl id) rfl) ?_
         refine AWL.ygT rfl rfl rfl rfl (B rfl) (Yv.neq rfl (Eg rfl rfl id) (E rfl rfl)) ?_
         refine AWL.y rfl rfl (B rfl) (Yv.pickAnd rfl (E rfl rfl) (Eg rfl rfl id)) ?_
         refine AWL.nil ?_
         refine AW.cond rfl (fun h6t => ?_) (fun h6f => ?_)
         ·
          try replace h6t := of_decide_eq_true h6t
          refine AW.region ?_
          refine AWL.y rfl rfl (B rfl) (Yv.fieldBox rfl fo_45_7 (E rfl rfl)) ?_
          refine AWL.y rfl rfl (B rfl) (Yv.loadBox rfl ag_3 (i := 0) rfl (E rfl rfl) rfl) ?_
          refine AWL.y rfl rfl (B rfl) (Yv.assign rfl (E rfl rfl)) ?_
          refine AWL.nil ?_
          refine ⟨(), trivial, (Sub.cons rfl rfl (Sub.cons rfl rfl (Sub.cons rfl rfl (Sub.cons rfl rfl (Sub.cons rfl rfl (Sub.cons rfl (by rw [regX, if_pos h6t]) Sub.nil)))))), rfl⟩
         try replace h6f := of_decide_eq_false h6f
         refine AW.skip ?_
         refine ⟨(), trivial, (Sub.cons rfl rfl (Sub.cons rfl rfl (Sub.cons rfl rfl (Sub.cons rfl rfl (Sub.cons rfl rfl (Sub.cons rfl (by rw [regX, if_neg (ne_true_of_eq_false h6f)]) Sub.nil)))))), rfl⟩
        ·
         rintro _ hmid
         refine AW.rseq ?_
         refine AWL.y rfl rfl (B rfl) (Yv.move rfl (E rfl rfl)) ?_
         refine AWL.y rfl rfl (B rfl) (Yv.fieldBox rfl fo_45_6 (E rfl rfl)) ?_
         refine AWL.y rfl rfl (B rfl) (Yv.loadBox rfl ag_3 (i := 0) rfl (E rfl rfl) rfl) ?_
         refine AWL.y rfl rfl (B rfl) (Yv.mulN_i64 rfl (E rfl rfl) (E rfl rfl) (fun hg => by omega)) ?_
         refine AWL.y rfl rfl (B rfl) (Yv.move rfl (E rfl rfl)) ?_
         refine AWL.y rfl rfl (B rfl) (Yv.mulN_i64 rfl (E rfl rfl) (E rfl rfl) (fun hg => by omega)) ?_
         refine AWL.y rfl rfl (B rfl) (Yv.addN_i64 rfl (E rfl rfl) (E rfl rfl) (fun hg => by omega)) ?_
         refine AWL.y rfl rfl (B rfl) (Yv.move rfl (E rfl rfl)) ?_
         refine AWL.y rfl rfl (B rfl) (Yv.remN rfl (E rfl rfl) (E rfl rfl) (fun hg => by omega)) ?_
         refine AWL.y rfl rfl (B rfl) (Yv.addN_i64 rfl (E rfl rfl) (E rfl rfl) (fun hg => by omega)) ?_
         refine AWL.y rfl rfl (B rfl) (Yv.conv rfl Tryd.underlying3 kd_5 (E rfl rfl)) ?_
         refine AWL.buildSlice1 rfl rfl (B rfl) rfl el_24 rfl (evsC (E rfl rfl) evs0) (Nat.le_of_ble_eq_true rfl) rfl rfl ?_
         refine AWL.appendRow (i := 2) rfl rfl (B rfl) rfl el_24 (B rfl) rfl (E rfl rfl) (SrcT.sl so_24 (B rfl) (E rfl rfl) rfl) (by unfold maxLen; omega) (by omega) (fun A125 c125 => ?_)
         refine AWL.y rfl rfl (B rfl) (Yv.assign rfl (E rfl rfl)) ?_
         refine AWL.nil ?_
         refine AW.rseq ?_
         refine AWL.y rfl rfl (B rfl) (Yv.fieldBox rfl fo_45_6 (E rfl rfl)) ?_
         refine AWL.y rfl rfl (B rfl) (Yv.loadBox rfl ag_3 (i := 0) rfl (E rfl rfl) rfl) ?_
         refine AWL.y rfl rfl (B rfl) (Yv.eql rfl (E rfl rfl) (E rfl rfl)) ?_
         refine AWL.y rfl rfl (B rfl) (Yv.move rfl (E rfl rfl)) ?_
         refine AWL.ygT rfl rfl rfl rfl (B rfl) (Yv.move rfl (E rfl rfl)) ?_
         refine AWL.ygT rfl rfl rfl rfl (B rfl) (Yv.remN rfl (Eg rfl rfl id) (E rfl rfl) (fun hg => by first | omega | (simp only [Bool.and_eq_true, Bool.or_eq_false_iff, Bool.not_eq_true', Bool.not_eq_false', decide_eq_true_eq, decide_eq_false_iff_not] at hg; omega))) ?_
         refine AWL.ygT rfl rfl rfl rfl (B rfl) (Yv.eql rfl (Eg rfl rfl id) (E rfl rfl)) ?_
         refine AWL.y rfl rfl (B rfl) (Yv.pickAnd rfl (E rfl rfl) (Eg rfl rfl id)) ?_
         refine AWL.nil ?_
         refine AW.cond rfl (fun h7t => ?_) (fun h7f => ?_)
         ·
          try replace h7t := of_decide_eq_true h7t
          refine AW.region ?_
          refine AWL.y rfl rfl (B rfl) (Yv.move rfl (E rfl rfl)) ?_
          refine AWL.buildSlice1 rfl rfl (B rfl) rfl el_24 rfl (evsC (E rfl rfl) evs0) (Nat.le_of_ble_eq_true rfl) rfl rfl ?_
          refine AWL.appendRow (i := 2) rfl rfl (B rfl) rfl el_24 (B rfl) rfl (E rfl rfl) (SrcT.sl so_24 (B rfl) (E rfl rfl) rfl) (by unfold maxLen; omega) (by omega) (fun A136 c136 => ?_)
          refine AWL.y rfl rfl (B rfl) (Yv.assign rfl (E rfl rfl)) ?_
          refine AWL.nil ?_
          obtain ⟨hL, hM⟩ := r3_yes h5t h7t
          refine ⟨⟨A136, c136⟩, trivial, (Sub.cons rfl rfl (Sub.cons rfl rfl (Sub.cons rfl (by rw [hL] <;> rfl) (Sub.cons rfl rfl (Sub.cons rfl rfl Sub.nil))))), ?_⟩
          rw [hL, hM]
          rfl
         try replace h7f := of_decide_eq_false h7f
         refine AW.skip ?_
         obtain ⟨hL, hM⟩ := r3_one h5t (ne_true_of_eq_false h7f)
         refine ⟨⟨A125, c125⟩, trivial, (Sub.cons rfl rfl (Sub.cons rfl rfl (Sub.cons rfl (by rw [hL] <;> rfl) (Sub.cons rfl rfl (Sub.cons rfl rfl Sub.nil))))), ?_⟩
         rw [hL, hM]
         rfl
       try replace h5f := of_decide_eq_false h5f
       refine AW.skip ?_
       have hN := r3_no (i := i) h5f
       refine ⟨⟨Ao, co⟩, trivial, (Sub.cons rfl rfl (Sub.cons rfl rfl (Sub.cons rfl (by rw [hN]) (Sub.cons rfl rfl (Sub.cons rfl rfl Sub.nil))))), ?_⟩
       rw [hN] <;> rfl
      ·
       rintro ⟨A, c⟩ hmid
       refine AW.rseq ?_
       refine AWL.y rfl rfl (B rfl) (Yv.assign rfl (E rfl rfl)) ?_
       refine AWL.nil ?_
       refine AW.mid (α := Option Addr × Nat) (fun q => [(2, true, .v (.pointer (some ⟨b2, 0, none⟩))), (3, true, .v (.pointer (some ⟨b3, 0, none⟩))), (5, true, .v (.slice q.1 (r3 f i).length q.2)), (11, true, .v (.int .i64 (sizeR f.imm : Int)))]) (fun q => [.box b2 45 (formCells f), .box b3 23 (insCells i), Ent.row q.1 (r3 f i).length q.2 5 1 ((r3 f i).map u8)]) (fun _ => True) ?_ ?_
       ·
        refine AW.rseq ?_
        refine AWL.y rfl rfl (B rfl) (Yv.fieldBox rfl fo_45_11 (E rfl rfl)) ?_
        refine AWL.y rfl rfl (B rfl) (Yv.loadBox rfl ag_3 (i := 0) rfl (E rfl rfl) rfl) ?_
        refine AWL.nil ?_
        refine AW.block ?_
        refine AW.rseq ?_
        refine AWL.y rfl rfl (B rfl) (Yv.eql rfl (E rfl rfl) (E rfl rfl)) ?_
        refine AWL.y rfl rfl (B rfl) (Yv.assign rfl (E rfl rfl)) ?_
        refine AWL.nil ?_
        refine AW.cond rfl (fun h8t => ?_) (fun h8f => ?_)
        ·
         try replace h8t := of_decide_eq_true h8t
         refine AW.region ?_
         refine AWL.y rfl rfl (B rfl) (Yv.assign rfl (E rfl rfl)) ?_
         refine AWL.nil ?_
         refine ⟨⟨A, c⟩, trivial, (Sub.cons rfl rfl (Sub.cons rfl rfl (Sub.cons rfl rfl (Sub.cons rfl (by rw [sizeR, if_pos h8t]; rfl) Sub.nil)))), rfl⟩
        try replace h8f := of_decide_eq_false h8f
        refine AW.rseq ?_
        refine AWL.y rfl rfl (B rfl) (Yv.eql rfl (E rfl rfl) (E rfl rfl)) ?_
        refine AWL.y rfl rfl (B rfl) (Yv.assign rfl (E rfl rfl)) ?_
        refine AWL.nil ?_
        refine AW.cond rfl (fun h9t => ?_) (fun h9f => ?_)
        ·
         try replace h9t := of_decide_eq_true h9t
         refine AW.region ?_
         refine AWL.y rfl rfl (B rfl) (Yv.assign rfl (E rfl rfl)) ?_
         refine AWL.nil ?_
         refine ⟨⟨A, c⟩, trivial, (Sub.cons rfl rfl (Sub.cons rfl rfl (Sub.cons rfl rfl (Sub.cons rfl (by rw [sizeR, if_neg h8f, if_pos h9t]; rfl) Sub.nil)))), rfl⟩
        try replace h9f := of_decide_eq_false h9f
        refine AW.rseq ?_
        refine AWL.y rfl rfl (B rfl) (Yv.eql rfl (E rfl rfl) (E rfl rfl)) ?_
        refine AWL.y rfl rfl (B rfl) (Yv.assign rfl (E rfl rfl)) ?_
        refine AWL.nil ?_
        refine AW.cond rfl (fun h10t => ?_) (fun h10f => ?_)
        ·
         try replace h10t := of_decide_eq_true h10t
         refine AW.region ?_
         refine AWL.y rfl rfl (B rfl) (Yv.assign rfl (E rfl rfl)) ?_
         refine AWL.nil ?_
         refine ⟨⟨A, c⟩, trivial, (Sub.cons rfl rfl (Sub.cons rfl rfl (Sub.cons rfl rfl (Sub.cons rfl (by rw [sizeR, if_neg h8f, if_neg h9f, if_pos h10t]; rfl) Sub.nil)))), rfl⟩
        try replace h10f := of_decide_eq_false h10f
        refine AW.skip ?_
        refine ⟨⟨A, c⟩, trivial, (Sub.cons rfl rfl (Sub.cons rfl rfl (Sub.cons rfl rfl (Sub.cons rfl (by rw [sizeR, if_neg h8f, if_neg h9f, if_neg h10f]; rfl) Sub.nil)))), rfl⟩
       ·
        rintro ⟨A, c⟩ hmid
        refine AW.rseq ?_
        refine AWL.y rfl rfl (B rfl) (Yv.fieldBox rfl fo_23_5 (E rfl rfl)) ?_
        refine AWL.y rfl rfl (B rfl) (Yv.loadBox rfl ag_2 (i := 1) rfl (E rfl rfl) rfl) ?_
        refine AWL.y rfl rfl (B rfl) (Yv.conv rfl Tryd.underlying2 kd_78 (E rfl rfl)) ?_
        rw [IntKind.wrap_u64]
        refine AWL.y rfl rfl (B rfl) (Yv.assign rfl (E rfl rfl)) ?_
        refine AWL.nil ?_
        refine AW.seq ?_
        refine AW.rseq ?_
        refine AWL.y rfl rfl (B rfl) (Yv.assign rfl (E rfl rfl)) ?_
        refine AWL.nil ?_
        refine AW.block ?_
        refine AW.loop3 (fun (j : Nat) (Ao : Option Addr) (co : Nat) => [(2, true, .v (.pointer (some ⟨b2, 0, none⟩))), (3, true, .v (.pointer (some ⟨b3, 0, none⟩))), (5, true, .v (.slice Ao (r4 f i j).length co)), (11, true, .v (.int .i64 (sizeR f.imm : Int))), (12, true, .v (.int .u64 (i.imm % 18446744073709551616 / 256 ^ j))), (13, true, .v (.int .i64 (j : Int)))]) (fun (j : Nat) (Ao : Option Addr) (co : Nat) => [.box b2 45 (formCells f), .box b3 23 (insCells i), Ent.row Ao (r4 f i j).length co 5 1 ((r4 f i j).map u8)]) (fun (j : Nat) (Ao : Option Addr) (co : Nat) => j ≤ sizeR f.imm) (fun (j : Nat) (Ao : Option Addr) (co : Nat) => sizeR f.imm - j) 0 A c ?_ ?_ ?_ ?_
        · exact Nat.zero_le _
        · exact (Sub.cons rfl rfl (Sub.cons rfl rfl (Sub.cons rfl (by rw [r4_zero]) (Sub.cons rfl rfl (Sub.cons rfl (by simp) (Sub.cons rfl rfl Sub.nil))))))
        · rw [r4_zero]
        ·
         intro j Ao co hinv
         have hlj := hl4 j
         refine AW.seq ?_
         refine AW.rseq ?_
         refine AWL.y rfl rfl (B rfl) (Yv.move rfl (E rfl rfl)) ?_
         refine AWL.y rfl rfl (B rfl) (Yv.move rfl (E rfl rfl)) ?_
         refine AWL.y rfl rfl (B rfl) (Yv.lss rfl (E rfl rfl) (E rfl rfl)) ?_
         refine AWL.nil ?_
         refine AW.cond rfl (fun h11t => ?_) (fun h11f => ?_)
         ·
          try replace h11t := of_decide_eq_true h11t
          refine AW.skip ?_
          refine AW.seq ?_
          refine AW.block ?_
          obtain ⟨hn0, hn1⟩ := imm_step i.imm j
          refine AW.rseq ?_
          refine AWL.y rfl rfl (B rfl) (Yv.move rfl (E rfl rfl)) ?_
          refine AWL.y rfl rfl (B rfl) (Yv.move rfl (E rfl rfl)) ?_
          refine AWL.y rfl rfl (B rfl) (Yv.remN rfl (E rfl rfl) (E rfl rfl) (fun hg => by omega)) ?_
          refine AWL.y rfl rfl (B rfl) (Yv.conv rfl Tryd.underlying78 kd_5 (E rfl rfl)) ?_
          refine AWL.buildSlice1 rfl rfl (B rfl) rfl el_24 rfl (evsC (E rfl rfl) evs0) (Nat.le_of_ble_eq_true rfl) rfl rfl ?_
          refine AWL.appendRow (i := 2) rfl rfl (B rfl) rfl el_24 (B rfl) rfl (E rfl rfl) (SrcT.sl so_24 (B rfl) (E rfl rfl) rfl) (by unfold maxLen; omega) (by omega) (fun A158 c158 => ?_)
          refine AWL.y rfl rfl (B rfl) (Yv.assign rfl (E rfl rfl)) ?_
          refine AWL.nil ?_
          refine AW.region ?_
          refine AWL.y rfl rfl (B rfl) (Yv.move rfl (E rfl rfl)) ?_
          refine AWL.y rfl rfl (B rfl) (Yv.quoN_u64 rfl (E rfl rfl) (E rfl rfl) (fun hg => by omega)) ?_
          refine AWL.y rfl rfl (B rfl) (Yv.assign rfl (E rfl rfl)) ?_
          refine AWL.nil ?_
          refine AW.region ?_
          refine AWL.y rfl rfl (B rfl) (Yv.move rfl (E rfl rfl)) ?_
          refine AWL.y rfl rfl (B rfl) (Yv.addN_i64 rfl (E rfl rfl) (E rfl rfl) (fun hg => by omega)) ?_
          refine AWL.y rfl rfl (B rfl) (Yv.assign rfl (E rfl rfl)) ?_
          refine AWL.nil ?_
          obtain ⟨hL, hM⟩ := r4_next f i j
          refine ⟨j + 1, A158, c158, by omega, by omega, Sub.cons rfl rfl (Sub.cons rfl rfl (Sub.cons rfl (by rw [hL] <;> rfl) (Sub.cons rfl rfl (Sub.cons rfl (by rw [div_succ]) (Sub.cons rfl (by simp) Sub.nil))))), ?_⟩
          rw [hL, hM]
          rfl
         try replace h11f := of_decide_eq_false h11f
         refine AW.exit ?_
         obtain rfl : j = sizeR f.imm := by omega
         refine AW.freeze 2 5 rfl (B rfl) rfl ?_
         refine AW.rseq ?_
         refine AWL.y rfl rfl (B rfl) (Yv.move rfl (E rfl rfl)) ?_
         refine AWL.y rfl rfl (B rfl) (Yv.assign rfl (E rfl rfl)) ?_
         refine AWL.nil ?_
         refine AW.ret (retI (.tmp rfl .nil) ?_)
         rfl

end Go.Proofs.YtjndpakhmgapjaaDoor

namespace Go.Proofs.YtjndpakhmgapjaaDoor
open Go Go.RowKit
set_option linter.unusedSimpArgs false
set_option linter.unusedVariables false
set_option linter.unnecessarySimpa false
theorem valid_mk {i : Ins} (hb : bad0 i = false) (h : (noneF (fieldsF i.kind).1 1 i.d && noneF (fieldsF i.kind).1 2 i.s && noneF (fieldsF i.kind).1 4 i.imm && noneF (fieldsF i.kind).1 8 i.cond && noneF (fieldsF i.kind).1 16 i.size && sizedF i) = true) : validF i = true := by
  rw [validF, if_neg (by rw [hb]; decide)]; exact h
theorem none_any (f h n : Int) (hf : ¬ bitsOf .and .i64 f h = 0) : noneF f h n = true := by rw [noneF, decide_eq_false hf]; rfl
theorem none_zero (f h : Int) : noneF f h 0 = true := by rw [noneF, decide_eq_true rfl, Bool.or_true]
theorem inF_of {n a b : Int} (h1 : a ≤ n) (h2 : n ≤ b) : inF n a b = true := by rw [inF, decide_eq_true h1, decide_eq_true h2]; rfl
theorem imm_len (n : Int) (k : Nat) : (immF n k).length = k := by simp [immF, leBytes_length]
end Go.Proofs.YtjndpakhmgapjaaDoor

namespace Go.Proofs.YtjndpakhmgapjaaDoor
open Go Go.RowKit
set_option linter.unusedSimpArgs false
set_option linter.unusedVariables false
set_option linter.unnecessarySimpa false
theorem fld0 {n : Int} (h : fieldR 0 n = true) : n = 0 := by
  simpa [fieldR] using h
theorem leBytes_mod : ∀ (k m : Nat) (n : Int), k ≤ m → leBytes k (n % 256 ^ m) = leBytes k n
  | 0, _, _, _ => rfl
  | k + 1, 0, _, h => absurd h (by omega)
  | k + 1, m + 1, n, h => by
    have e0 : (256 : Int) ^ (m + 1) = 256 ^ m * 256 := Int.pow_succ ..
    have hp : (0 : Int) < 256 ^ m := Int.pow_pos (by decide)
    have e1 : n % 256 ^ (m + 1) % 256 = n % 256 := Int.emod_emod_of_dvd n ⟨256 ^ m, by rw [e0, Int.mul_comm]⟩
    have e2 : n % 256 ^ (m + 1) / 256 = (n / 256) % 256 ^ m := by
      have a1 := Int.emod_add_mul_ediv n (256 ^ (m + 1))
      have a2 := Int.emod_nonneg n (show (256 : Int) ^ (m + 1) ≠ 0 by rw [e0]; omega)
      have a3 := Int.emod_lt_of_pos n (show (0 : Int) < 256 ^ (m + 1) by rw [e0]; omega)
      have b1 : n / 256 = 256 ^ m * (n / 256 ^ (m + 1)) + n % 256 ^ (m + 1) / 256 := by
        have : n = 256 * (256 ^ m * (n / 256 ^ (m + 1))) + n % 256 ^ (m + 1) := by
          have e3 : 256 * (256 ^ m * (n / 256 ^ (m + 1))) = 256 ^ (m + 1) * (n / 256 ^ (m + 1)) := by rw [e0, ← Int.mul_assoc, Int.mul_comm 256]
          omega
        omega
      have b2 : 0 ≤ n % 256 ^ (m + 1) / 256 := by omega
      have b3 : n % 256 ^ (m + 1) / 256 < 256 ^ m := by omega
      rw [b1, Int.add_comm, Int.add_mul_emod_self_left, Int.emod_eq_of_lt b2 b3]
    rw [leBytes, leBytes, e1, e2, leBytes_mod k m (n / 256) (by omega)]
theorem imm_mod {k : Nat} (hk : k ≤ 8) (n : Int) : immF n k = leBytes k (n % 18446744073709551616) := (leBytes_mod k 8 n hk).symm
theorem mem_tail (q q' n : Int) (h : q' = q) : (if q % 8 = 4 then [(36 : UInt8)] else []) ++ immF n 4 = (if (decide ((2 : Int) = 2) && decide (q' % 8 = 4)) = true then [36] else []) ++ leBytes 4 (n % 18446744073709551616) := by
  subst h
  rw [imm_mod (by decide)]
  by_cases hq : q' % 8 = 4
  · rw [if_pos hq, if_pos (by simp [hq])]
  · rw [if_neg hq, if_neg (by simp [hq])]
theorem list2 {α : Type} {a b : α} {l m : List α} (h1 : a = b) (h2 : l = m) : a :: l = b :: m := by rw [h1, h2]
theorem bad0_of {i : Ins} (h : (fieldsF i.kind).2 = true) (hd : 0 ≤ i.d ∧ i.d ≤ 15) (hs : 0 ≤ i.s ∧ i.s ≤ 15) (hc : 0 ≤ i.cond ∧ i.cond ≤ 15) : bad0 i = false := by
  rw [bad0, h, inF_of hd.1 hd.2, inF_of hs.1 hs.2, inF_of hc.1 hc.2]
  rfl
theorem form0 {d s c z n k : Int} (h : fitsF ⟨1, 0, 0, true, 1, [137], 3, 0, 2, 1, 0, 0⟩ ⟨k, d, s, c, z, n⟩ = true) : validF ⟨k, d, s, c, z, n⟩ = true ∧ encF ⟨k, d, s, c, z, n⟩ = bytesF ⟨1, 0, 0, true, 1, [137], 3, 0, 2, 1, 0, 0⟩ ⟨k, d, s, c, z, n⟩ := by
  simp only [fitsF, Bool.and_eq_true, decide_eq_true_eq] at h
  obtain ⟨⟨⟨⟨⟨hk, hz⟩, hd⟩, hs⟩, hc⟩, hn⟩ := h
  subst hk; subst hz
  have dr := field_range hd
  have sr := field_range hs
  obtain rfl := fld0 hc
  obtain rfl : n = 0 := of_decide_eq_true hn
  refine ⟨valid_mk (bad0_of rfl dr sr ⟨Int.le_refl _, show (0 : Int) ≤ 15 by decide⟩) ?_, ?_⟩
  · have e : sizedF ⟨1, d, s, 0, 0, 0⟩ = true := by rw [sizedF, if_neg (by dsimp only; decide), if_neg (by dsimp only; decide), if_neg (by dsimp only; decide)]; rfl
    rw [e, none_any _ 1 _ (by dsimp only; decide), none_any _ 2 _ (by dsimp only; decide), none_zero _ 4, none_zero _ 8, none_zero _ 16]
    rfl
  · show byteOf (rexN true s d) :: 137 :: byteOf (twoN s d) :: [] = byteOf (64 + 8 * 1 + 4 * (s / 8) + (d + 0) / 8) :: byteOf (137 + 0 + 0) :: byteOf (64 * 3 + 8 * (s % 8) + (d + 0) % 8) :: []
    exact list2 (congrArg byteOf (by simp only [rexN, if_true, if_false, Bool.false_eq_true]; omega)) (list2 (rfl) (list2 (congrArg byteOf (by simp only [memN, twoN]; omega)) (rfl)))
theorem form1 {d s c z n k : Int} (h : fitsF ⟨2, 0, 0, true, 1, [199], 3, 0, 2, 0, 0, 6⟩ ⟨k, d, s, c, z, n⟩ = true) : validF ⟨k, d, s, c, z, n⟩ = true ∧ encF ⟨k, d, s, c, z, n⟩ = bytesF ⟨2, 0, 0, true, 1, [199], 3, 0, 2, 0, 0, 6⟩ ⟨k, d, s, c, z, n⟩ := by
  simp only [fitsF, Bool.and_eq_true, decide_eq_true_eq] at h
  obtain ⟨⟨⟨⟨⟨hk, hz⟩, hd⟩, hs⟩, hc⟩, hn⟩ := h
  subst hk; subst hz
  have dr := field_range hd
  obtain rfl := fld0 hs
  obtain rfl := fld0 hc
  have hn : smallF n = true := hn
  refine ⟨valid_mk (bad0_of rfl dr ⟨Int.le_refl _, show (0 : Int) ≤ 15 by decide⟩ ⟨Int.le_refl _, show (0 : Int) ≤ 15 by decide⟩) ?_, ?_⟩
  · have e : sizedF ⟨2, d, 0, 0, 0, n⟩ = true := by rw [sizedF, if_neg (by dsimp only; decide), if_neg (by dsimp only; decide), if_neg (by dsimp only; decide)]; rfl
    rw [e, none_any _ 1 _ (by dsimp only; decide), none_zero _ 2, none_any _ 4 _ (by dsimp only; decide), none_zero _ 8, none_zero _ 16]
    rfl
  · rw [show encF ⟨2, d, 0, 0, 0, n⟩ = (if smallF n = true then byteOf (rexN true 0 d) :: 199 :: byteOf (twoN 0 d) :: immF n 4 else byteOf (rexN true 0 d) :: byteOf (184 + d % 8) :: immF n 8) from rfl, if_pos hn]
    show byteOf (rexN true 0 d) :: 199 :: byteOf (twoN 0 d) :: immF n 4 = byteOf (64 + 8 * 1 + 4 * (0 / 8) + (d + 0) / 8) :: byteOf (199 + 0 + 0) :: byteOf (64 * 3 + 8 * (0) + (d + 0) % 8) :: leBytes 4 (n % 18446744073709551616)
    exact list2 (congrArg byteOf (by simp only [rexN, if_true, if_false, Bool.false_eq_true]; omega)) (list2 (rfl) (list2 (congrArg byteOf (by simp only [memN, twoN]; omega)) (imm_mod (by decide) n)))
theorem form2 {d s c z n k : Int} (h : fitsF ⟨2, 0, 0, true, 1, [184], -1, 0, 3, 0, 0, 7⟩ ⟨k, d, s, c, z, n⟩ = true) : validF ⟨k, d, s, c, z, n⟩ = true ∧ encF ⟨k, d, s, c, z, n⟩ = bytesF ⟨2, 0, 0, true, 1, [184], -1, 0, 3, 0, 0, 7⟩ ⟨k, d, s, c, z, n⟩ := by
  simp only [fitsF, Bool.and_eq_true, decide_eq_true_eq] at h
  obtain ⟨⟨⟨⟨⟨hk, hz⟩, hd⟩, hs⟩, hc⟩, hn⟩ := h
  subst hk; subst hz
  have dr := field_range hd
  obtain rfl := fld0 hs
  obtain rfl := fld0 hc
  have hn : smallF n = false := by simpa using (show (!smallF n) = true from hn)
  refine ⟨valid_mk (bad0_of rfl dr ⟨Int.le_refl _, show (0 : Int) ≤ 15 by decide⟩ ⟨Int.le_refl _, show (0 : Int) ≤ 15 by decide⟩) ?_, ?_⟩
  · have e : sizedF ⟨2, d, 0, 0, 0, n⟩ = true := by rw [sizedF, if_neg (by dsimp only; decide), if_neg (by dsimp only; decide), if_neg (by dsimp only; decide)]; rfl
    rw [e, none_any _ 1 _ (by dsimp only; decide), none_zero _ 2, none_any _ 4 _ (by dsimp only; decide), none_zero _ 8, none_zero _ 16]
    rfl
  · rw [show encF ⟨2, d, 0, 0, 0, n⟩ = (if smallF n = true then byteOf (rexN true 0 d) :: 199 :: byteOf (twoN 0 d) :: immF n 4 else byteOf (rexN true 0 d) :: byteOf (184 + d % 8) :: immF n 8) from rfl, if_neg (by rw [hn]; decide)]
    show byteOf (rexN true 0 d) :: byteOf (184 + d % 8) :: immF n 8 = byteOf (64 + 8 * 1 + 4 * (0 / 8) + (0 + d) / 8) :: byteOf (184 + 0 + d % 8) :: leBytes 8 (n % 18446744073709551616)
    exact list2 (congrArg byteOf (by simp only [rexN, if_true, if_false, Bool.false_eq_true]; omega)) (list2 (congrArg byteOf (by omega)) (imm_mod (by decide) n))
theorem form3 {d s c z n k : Int} (h : fitsF ⟨3, 8, 0, true, 1, [139], 2, 0, 1, 2, 0, 6⟩ ⟨k, d, s, c, z, n⟩ = true) : validF ⟨k, d, s, c, z, n⟩ = true ∧ encF ⟨k, d, s, c, z, n⟩ = bytesF ⟨3, 8, 0, true, 1, [139], 2, 0, 1, 2, 0, 6⟩ ⟨k, d, s, c, z, n⟩ := by
  simp only [fitsF, Bool.and_eq_true, decide_eq_true_eq] at h
  obtain ⟨⟨⟨⟨⟨hk, hz⟩, hd⟩, hs⟩, hc⟩, hn⟩ := h
  subst hk; subst hz
  have dr := field_range hd
  have sr := field_range hs
  obtain rfl := fld0 hc
  have hn : smallF n = true := hn
  refine ⟨valid_mk (bad0_of rfl dr sr ⟨Int.le_refl _, show (0 : Int) ≤ 15 by decide⟩) ?_, ?_⟩
  · have e : sizedF ⟨3, d, s, 0, 8, n⟩ = true := by rw [sizedF, if_pos (by dsimp only; decide), hn]; rfl
    rw [e, none_any _ 1 _ (by dsimp only; decide), none_any _ 2 _ (by dsimp only; decide), none_any _ 4 _ (by dsimp only; decide), none_zero _ 8, none_any _ 16 _ (by dsimp only; decide)]
    rfl
  · show byteOf (rexN true d s) :: 139 :: byteOf (memN d s) :: ((if s % 8 = 4 then [(36 : UInt8)] else []) ++ immF n 4) = byteOf (64 + 8 * 1 + 4 * (d / 8) + (s + 0) / 8) :: byteOf (139 + 0 + 0) :: byteOf (64 * 2 + 8 * (d % 8) + (s + 0) % 8) :: ((if (decide ((2 : Int) = 2) && decide ((s + 0) % 8 = 4)) = true then [36] else []) ++ leBytes 4 (n % 18446744073709551616))
    exact list2 (congrArg byteOf (by simp only [rexN, if_true, if_false, Bool.false_eq_true]; omega)) (list2 (rfl) (list2 (congrArg byteOf (by simp only [memN, twoN]; omega)) (mem_tail _ _ _ (by omega))))
theorem form4 {d s c z n k : Int} (h : fitsF ⟨3, 4, 0, true, 0, [139], 2, 0, 1, 2, 0, 6⟩ ⟨k, d, s, c, z, n⟩ = true) : validF ⟨k, d, s, c, z, n⟩ = true ∧ encF ⟨k, d, s, c, z, n⟩ = bytesF ⟨3, 4, 0, true, 0, [139], 2, 0, 1, 2, 0, 6⟩ ⟨k, d, s, c, z, n⟩ := by
  simp only [fitsF, Bool.and_eq_true, decide_eq_true_eq] at h
  obtain ⟨⟨⟨⟨⟨hk, hz⟩, hd⟩, hs⟩, hc⟩, hn⟩ := h
  subst hk; subst hz
  have dr := field_range hd
  have sr := field_range hs
  obtain rfl := fld0 hc
  have hn : smallF n = true := hn
  refine ⟨valid_mk (bad0_of rfl dr sr ⟨Int.le_refl _, show (0 : Int) ≤ 15 by decide⟩) ?_, ?_⟩
  · have e : sizedF ⟨3, d, s, 0, 4, n⟩ = true := by rw [sizedF, if_pos (by dsimp only; decide), hn]; rfl
    rw [e, none_any _ 1 _ (by dsimp only; decide), none_any _ 2 _ (by dsimp only; decide), none_any _ 4 _ (by dsimp only; decide), none_zero _ 8, none_any _ 16 _ (by dsimp only; decide)]
    rfl
  · show byteOf (rexN false d s) :: 139 :: byteOf (memN d s) :: ((if s % 8 = 4 then [(36 : UInt8)] else []) ++ immF n 4) = byteOf (64 + 8 * 0 + 4 * (d / 8) + (s + 0) / 8) :: byteOf (139 + 0 + 0) :: byteOf (64 * 2 + 8 * (d % 8) + (s + 0) % 8) :: ((if (decide ((2 : Int) = 2) && decide ((s + 0) % 8 = 4)) = true then [36] else []) ++ leBytes 4 (n % 18446744073709551616))
    exact list2 (congrArg byteOf (by simp only [rexN, if_true, if_false, Bool.false_eq_true]; omega)) (list2 (rfl) (list2 (congrArg byteOf (by simp only [memN, twoN]; omega)) (mem_tail _ _ _ (by omega))))
theorem form5 {d s c z n k : Int} (h : fitsF ⟨3, 1, 0, true, 1, [15, 182], 2, 0, 1, 2, 0, 6⟩ ⟨k, d, s, c, z, n⟩ = true) : validF ⟨k, d, s, c, z, n⟩ = true ∧ encF ⟨k, d, s, c, z, n⟩ = bytesF ⟨3, 1, 0, true, 1, [15, 182], 2, 0, 1, 2, 0, 6⟩ ⟨k, d, s, c, z, n⟩ := by
  simp only [fitsF, Bool.and_eq_true, decide_eq_true_eq] at h
  obtain ⟨⟨⟨⟨⟨hk, hz⟩, hd⟩, hs⟩, hc⟩, hn⟩ := h
  subst hk; subst hz
  have dr := field_range hd
  have sr := field_range hs
  obtain rfl := fld0 hc
  have hn : smallF n = true := hn
  refine ⟨valid_mk (bad0_of rfl dr sr ⟨Int.le_refl _, show (0 : Int) ≤ 15 by decide⟩) ?_, ?_⟩
  · have e : sizedF ⟨3, d, s, 0, 1, n⟩ = true := by rw [sizedF, if_pos (by dsimp only; decide), hn]; rfl
    rw [e, none_any _ 1 _ (by dsimp only; decide), none_any _ 2 _ (by dsimp only; decide), none_any _ 4 _ (by dsimp only; decide), none_zero _ 8, none_any _ 16 _ (by dsimp only; decide)]
    rfl
  · show byteOf (rexN true d s) :: 15 :: 182 :: byteOf (memN d s) :: ((if s % 8 = 4 then [(36 : UInt8)] else []) ++ immF n 4) = byteOf (64 + 8 * 1 + 4 * (d / 8) + (s + 0) / 8) :: byteOf (15 + 0 + 0) :: byteOf (182 + 0 + 0) :: byteOf (64 * 2 + 8 * (d % 8) + (s + 0) % 8) :: ((if (decide ((2 : Int) = 2) && decide ((s + 0) % 8 = 4)) = true then [36] else []) ++ leBytes 4 (n % 18446744073709551616))
    exact list2 (congrArg byteOf (by simp only [rexN, if_true, if_false, Bool.false_eq_true]; omega)) (list2 (rfl) (list2 (rfl) (list2 (congrArg byteOf (by simp only [memN, twoN]; omega)) (mem_tail _ _ _ (by omega)))))
theorem form6 {d s c z n k : Int} (h : fitsF ⟨4, 8, 0, true, 1, [137], 2, 0, 2, 1, 0, 6⟩ ⟨k, d, s, c, z, n⟩ = true) : validF ⟨k, d, s, c, z, n⟩ = true ∧ encF ⟨k, d, s, c, z, n⟩ = bytesF ⟨4, 8, 0, true, 1, [137], 2, 0, 2, 1, 0, 6⟩ ⟨k, d, s, c, z, n⟩ := by
  simp only [fitsF, Bool.and_eq_true, decide_eq_true_eq] at h
  obtain ⟨⟨⟨⟨⟨hk, hz⟩, hd⟩, hs⟩, hc⟩, hn⟩ := h
  subst hk; subst hz
  have dr := field_range hd
  have sr := field_range hs
  obtain rfl := fld0 hc
  have hn : smallF n = true := hn
  refine ⟨valid_mk (bad0_of rfl dr sr ⟨Int.le_refl _, show (0 : Int) ≤ 15 by decide⟩) ?_, ?_⟩
  · have e : sizedF ⟨4, d, s, 0, 8, n⟩ = true := by rw [sizedF, if_pos (by dsimp only; decide), hn]; rfl
    rw [e, none_any _ 1 _ (by dsimp only; decide), none_any _ 2 _ (by dsimp only; decide), none_any _ 4 _ (by dsimp only; decide), none_zero _ 8, none_any _ 16 _ (by dsimp only; decide)]
    rfl
  · show byteOf (rexN true s d) :: 137 :: byteOf (memN s d) :: ((if d % 8 = 4 then [(36 : UInt8)] else []) ++ immF n 4) = byteOf (64 + 8 * 1 + 4 * (s / 8) + (d + 0) / 8) :: byteOf (137 + 0 + 0) :: byteOf (64 * 2 + 8 * (s % 8) + (d + 0) % 8) :: ((if (decide ((2 : Int) = 2) && decide ((d + 0) % 8 = 4)) = true then [36] else []) ++ leBytes 4 (n % 18446744073709551616))
    exact list2 (congrArg byteOf (by simp only [rexN, if_true, if_false, Bool.false_eq_true]; omega)) (list2 (rfl) (list2 (congrArg byteOf (by simp only [memN, twoN]; omega)) (mem_tail _ _ _ (by omega))))
theorem form7 {d s c z n k : Int} (h : fitsF ⟨4, 4, 0, true, 0, [137], 2, 0, 2, 1, 0, 6⟩ ⟨k, d, s, c, z, n⟩ = true) : validF ⟨k, d, s, c, z, n⟩ = true ∧ encF ⟨k, d, s, c, z, n⟩ = bytesF ⟨4, 4, 0, true, 0, [137], 2, 0, 2, 1, 0, 6⟩ ⟨k, d, s, c, z, n⟩ := by
  simp only [fitsF, Bool.and_eq_true, decide_eq_true_eq] at h
  obtain ⟨⟨⟨⟨⟨hk, hz⟩, hd⟩, hs⟩, hc⟩, hn⟩ := h
  subst hk; subst hz
  have dr := field_range hd
  have sr := field_range hs
  obtain rfl := fld0 hc
  have hn : smallF n = true := hn
  refine ⟨valid_mk (bad0_of rfl dr sr ⟨Int.le_refl _, show (0 : Int) ≤ 15 by decide⟩) ?_, ?_⟩
  · have e : sizedF ⟨4, d, s, 0, 4, n⟩ = true := by rw [sizedF, if_pos (by dsimp only; decide), hn]; rfl
    rw [e, none_any _ 1 _ (by dsimp only; decide), none_any _ 2 _ (by dsimp only; decide), none_any _ 4 _ (by dsimp only; decide), none_zero _ 8, none_any _ 16 _ (by dsimp only; decide)]
    rfl
  · show byteOf (rexN false s d) :: 137 :: byteOf (memN s d) :: ((if d % 8 = 4 then [(36 : UInt8)] else []) ++ immF n 4) = byteOf (64 + 8 * 0 + 4 * (s / 8) + (d + 0) / 8) :: byteOf (137 + 0 + 0) :: byteOf (64 * 2 + 8 * (s % 8) + (d + 0) % 8) :: ((if (decide ((2 : Int) = 2) && decide ((d + 0) % 8 = 4)) = true then [36] else []) ++ leBytes 4 (n % 18446744073709551616))
    exact list2 (congrArg byteOf (by simp only [rexN, if_true, if_false, Bool.false_eq_true]; omega)) (list2 (rfl) (list2 (congrArg byteOf (by simp only [memN, twoN]; omega)) (mem_tail _ _ _ (by omega))))
theorem form8 {d s c z n k : Int} (h : fitsF ⟨4, 1, 0, true, 0, [136], 2, 0, 2, 1, 0, 6⟩ ⟨k, d, s, c, z, n⟩ = true) : validF ⟨k, d, s, c, z, n⟩ = true ∧ encF ⟨k, d, s, c, z, n⟩ = bytesF ⟨4, 1, 0, true, 0, [136], 2, 0, 2, 1, 0, 6⟩ ⟨k, d, s, c, z, n⟩ := by
  simp only [fitsF, Bool.and_eq_true, decide_eq_true_eq] at h
  obtain ⟨⟨⟨⟨⟨hk, hz⟩, hd⟩, hs⟩, hc⟩, hn⟩ := h
  subst hk; subst hz
  have dr := field_range hd
  have sr := field_range hs
  obtain rfl := fld0 hc
  have hn : smallF n = true := hn
  refine ⟨valid_mk (bad0_of rfl dr sr ⟨Int.le_refl _, show (0 : Int) ≤ 15 by decide⟩) ?_, ?_⟩
  · have e : sizedF ⟨4, d, s, 0, 1, n⟩ = true := by rw [sizedF, if_pos (by dsimp only; decide), hn]; rfl
    rw [e, none_any _ 1 _ (by dsimp only; decide), none_any _ 2 _ (by dsimp only; decide), none_any _ 4 _ (by dsimp only; decide), none_zero _ 8, none_any _ 16 _ (by dsimp only; decide)]
    rfl
  · show byteOf (rexN false s d) :: 136 :: byteOf (memN s d) :: ((if d % 8 = 4 then [(36 : UInt8)] else []) ++ immF n 4) = byteOf (64 + 8 * 0 + 4 * (s / 8) + (d + 0) / 8) :: byteOf (136 + 0 + 0) :: byteOf (64 * 2 + 8 * (s % 8) + (d + 0) % 8) :: ((if (decide ((2 : Int) = 2) && decide ((d + 0) % 8 = 4)) = true then [36] else []) ++ leBytes 4 (n % 18446744073709551616))
    exact list2 (congrArg byteOf (by simp only [rexN, if_true, if_false, Bool.false_eq_true]; omega)) (list2 (rfl) (list2 (congrArg byteOf (by simp only [memN, twoN]; omega)) (mem_tail _ _ _ (by omega))))
theorem form9 {d s c z n k : Int} (h : fitsF ⟨5, 0, 0, true, 1, [141], 2, 0, 1, 2, 0, 6⟩ ⟨k, d, s, c, z, n⟩ = true) : validF ⟨k, d, s, c, z, n⟩ = true ∧ encF ⟨k, d, s, c, z, n⟩ = bytesF ⟨5, 0, 0, true, 1, [141], 2, 0, 1, 2, 0, 6⟩ ⟨k, d, s, c, z, n⟩ := by
  simp only [fitsF, Bool.and_eq_true, decide_eq_true_eq] at h
  obtain ⟨⟨⟨⟨⟨hk, hz⟩, hd⟩, hs⟩, hc⟩, hn⟩ := h
  subst hk; subst hz
  have dr := field_range hd
  have sr := field_range hs
  obtain rfl := fld0 hc
  have hn : smallF n = true := hn
  refine ⟨valid_mk (bad0_of rfl dr sr ⟨Int.le_refl _, show (0 : Int) ≤ 15 by decide⟩) ?_, ?_⟩
  · have e : sizedF ⟨5, d, s, 0, 0, n⟩ = true := by rw [sizedF, if_neg (by dsimp only; decide), if_neg (by dsimp only; decide), if_neg (by dsimp only; decide), hn, Bool.or_true]
    rw [e, none_any _ 1 _ (by dsimp only; decide), none_any _ 2 _ (by dsimp only; decide), none_any _ 4 _ (by dsimp only; decide), none_zero _ 8, none_zero _ 16]
    rfl
  · show byteOf (rexN true d s) :: 141 :: byteOf (memN d s) :: ((if s % 8 = 4 then [(36 : UInt8)] else []) ++ immF n 4) = byteOf (64 + 8 * 1 + 4 * (d / 8) + (s + 0) / 8) :: byteOf (141 + 0 + 0) :: byteOf (64 * 2 + 8 * (d % 8) + (s + 0) % 8) :: ((if (decide ((2 : Int) = 2) && decide ((s + 0) % 8 = 4)) = true then [36] else []) ++ leBytes 4 (n % 18446744073709551616))
    exact list2 (congrArg byteOf (by simp only [rexN, if_true, if_false, Bool.false_eq_true]; omega)) (list2 (rfl) (list2 (congrArg byteOf (by simp only [memN, twoN]; omega)) (mem_tail _ _ _ (by omega))))
theorem form10 {d s c z n k : Int} (h : fitsF ⟨6, 0, 0, true, 1, [1], 3, 0, 2, 1, 0, 0⟩ ⟨k, d, s, c, z, n⟩ = true) : validF ⟨k, d, s, c, z, n⟩ = true ∧ encF ⟨k, d, s, c, z, n⟩ = bytesF ⟨6, 0, 0, true, 1, [1], 3, 0, 2, 1, 0, 0⟩ ⟨k, d, s, c, z, n⟩ := by
  simp only [fitsF, Bool.and_eq_true, decide_eq_true_eq] at h
  obtain ⟨⟨⟨⟨⟨hk, hz⟩, hd⟩, hs⟩, hc⟩, hn⟩ := h
  subst hk; subst hz
  have dr := field_range hd
  have sr := field_range hs
  obtain rfl := fld0 hc
  obtain rfl : n = 0 := of_decide_eq_true hn
  refine ⟨valid_mk (bad0_of rfl dr sr ⟨Int.le_refl _, show (0 : Int) ≤ 15 by decide⟩) ?_, ?_⟩
  · have e : sizedF ⟨6, d, s, 0, 0, 0⟩ = true := by rw [sizedF, if_neg (by dsimp only; decide), if_neg (by dsimp only; decide), if_neg (by dsimp only; decide)]; rfl
    rw [e, none_any _ 1 _ (by dsimp only; decide), none_any _ 2 _ (by dsimp only; decide), none_zero _ 4, none_zero _ 8, none_zero _ 16]
    rfl
  · show byteOf (rexN true s d) :: 1 :: byteOf (twoN s d) :: [] = byteOf (64 + 8 * 1 + 4 * (s / 8) + (d + 0) / 8) :: byteOf (1 + 0 + 0) :: byteOf (64 * 3 + 8 * (s % 8) + (d + 0) % 8) :: []
    exact list2 (congrArg byteOf (by simp only [rexN, if_true, if_false, Bool.false_eq_true]; omega)) (list2 (rfl) (list2 (congrArg byteOf (by simp only [memN, twoN]; omega)) (rfl)))
theorem form11 {d s c z n k : Int} (h : fitsF ⟨7, 0, 0, true, 1, [9], 3, 0, 2, 1, 0, 0⟩ ⟨k, d, s, c, z, n⟩ = true) : validF ⟨k, d, s, c, z, n⟩ = true ∧ encF ⟨k, d, s, c, z, n⟩ = bytesF ⟨7, 0, 0, true, 1, [9], 3, 0, 2, 1, 0, 0⟩ ⟨k, d, s, c, z, n⟩ := by
  simp only [fitsF, Bool.and_eq_true, decide_eq_true_eq] at h
  obtain ⟨⟨⟨⟨⟨hk, hz⟩, hd⟩, hs⟩, hc⟩, hn⟩ := h
  subst hk; subst hz
  have dr := field_range hd
  have sr := field_range hs
  obtain rfl := fld0 hc
  obtain rfl : n = 0 := of_decide_eq_true hn
  refine ⟨valid_mk (bad0_of rfl dr sr ⟨Int.le_refl _, show (0 : Int) ≤ 15 by decide⟩) ?_, ?_⟩
  · have e : sizedF ⟨7, d, s, 0, 0, 0⟩ = true := by rw [sizedF, if_neg (by dsimp only; decide), if_neg (by dsimp only; decide), if_neg (by dsimp only; decide)]; rfl
    rw [e, none_any _ 1 _ (by dsimp only; decide), none_any _ 2 _ (by dsimp only; decide), none_zero _ 4, none_zero _ 8, none_zero _ 16]
    rfl
  · show byteOf (rexN true s d) :: 9 :: byteOf (twoN s d) :: [] = byteOf (64 + 8 * 1 + 4 * (s / 8) + (d + 0) / 8) :: byteOf (9 + 0 + 0) :: byteOf (64 * 3 + 8 * (s % 8) + (d + 0) % 8) :: []
    exact list2 (congrArg byteOf (by simp only [rexN, if_true, if_false, Bool.false_eq_true]; omega)) (list2 (rfl) (list2 (congrArg byteOf (by simp only [memN, twoN]; omega)) (rfl)))
theorem form12 {d s c z n k : Int} (h : fitsF ⟨8, 0, 0, true, 1, [17], 3, 0, 2, 1, 0, 0⟩ ⟨k, d, s, c, z, n⟩ = true) : validF ⟨k, d, s, c, z, n⟩ = true ∧ encF ⟨k, d, s, c, z, n⟩ = bytesF ⟨8, 0, 0, true, 1, [17], 3, 0, 2, 1, 0, 0⟩ ⟨k, d, s, c, z, n⟩ := by
  simp only [fitsF, Bool.and_eq_true, decide_eq_true_eq] at h
  obtain ⟨⟨⟨⟨⟨hk, hz⟩, hd⟩, hs⟩, hc⟩, hn⟩ := h
  subst hk; subst hz
  have dr := field_range hd
  have sr := field_range hs
  obtain rfl := fld0 hc
  obtain rfl : n = 0 := of_decide_eq_true hn
  refine ⟨valid_mk (bad0_of rfl dr sr ⟨Int.le_refl _, show (0 : Int) ≤ 15 by decide⟩) ?_, ?_⟩
  · have e : sizedF ⟨8, d, s, 0, 0, 0⟩ = true := by rw [sizedF, if_neg (by dsimp only; decide), if_neg (by dsimp only; decide), if_neg (by dsimp only; decide)]; rfl
    rw [e, none_any _ 1 _ (by dsimp only; decide), none_any _ 2 _ (by dsimp only; decide), none_zero _ 4, none_zero _ 8, none_zero _ 16]
    rfl
  · show byteOf (rexN true s d) :: 17 :: byteOf (twoN s d) :: [] = byteOf (64 + 8 * 1 + 4 * (s / 8) + (d + 0) / 8) :: byteOf (17 + 0 + 0) :: byteOf (64 * 3 + 8 * (s % 8) + (d + 0) % 8) :: []
    exact list2 (congrArg byteOf (by simp only [rexN, if_true, if_false, Bool.false_eq_true]; omega)) (list2 (rfl) (list2 (congrArg byteOf (by simp only [memN, twoN]; omega)) (rfl)))
theorem form13 {d s c z n k : Int} (h : fitsF ⟨9, 0, 0, true, 1, [25], 3, 0, 2, 1, 0, 0⟩ ⟨k, d, s, c, z, n⟩ = true) : validF ⟨k, d, s, c, z, n⟩ = true ∧ encF ⟨k, d, s, c, z, n⟩ = bytesF ⟨9, 0, 0, true, 1, [25], 3, 0, 2, 1, 0, 0⟩ ⟨k, d, s, c, z, n⟩ := by
  simp only [fitsF, Bool.and_eq_true, decide_eq_true_eq] at h
  obtain ⟨⟨⟨⟨⟨hk, hz⟩, hd⟩, hs⟩, hc⟩, hn⟩ := h
  subst hk; subst hz
  have dr := field_range hd
  have sr := field_range hs
  obtain rfl := fld0 hc
  obtain rfl : n = 0 := of_decide_eq_true hn
  refine ⟨valid_mk (bad0_of rfl dr sr ⟨Int.le_refl _, show (0 : Int) ≤ 15 by decide⟩) ?_, ?_⟩
  · have e : sizedF ⟨9, d, s, 0, 0, 0⟩ = true := by rw [sizedF, if_neg (by dsimp only; decide), if_neg (by dsimp only; decide), if_neg (by dsimp only; decide)]; rfl
    rw [e, none_any _ 1 _ (by dsimp only; decide), none_any _ 2 _ (by dsimp only; decide), none_zero _ 4, none_zero _ 8, none_zero _ 16]
    rfl
  · show byteOf (rexN true s d) :: 25 :: byteOf (twoN s d) :: [] = byteOf (64 + 8 * 1 + 4 * (s / 8) + (d + 0) / 8) :: byteOf (25 + 0 + 0) :: byteOf (64 * 3 + 8 * (s % 8) + (d + 0) % 8) :: []
    exact list2 (congrArg byteOf (by simp only [rexN, if_true, if_false, Bool.false_eq_true]; omega)) (list2 (rfl) (list2 (congrArg byteOf (by simp only [memN, twoN]; omega)) (rfl)))
theorem form14 {d s c z n k : Int} (h : fitsF ⟨10, 0, 0, true, 1, [33], 3, 0, 2, 1, 0, 0⟩ ⟨k, d, s, c, z, n⟩ = true) : validF ⟨k, d, s, c, z, n⟩ = true ∧ encF ⟨k, d, s, c, z, n⟩ = bytesF ⟨10, 0, 0, true, 1, [33], 3, 0, 2, 1, 0, 0⟩ ⟨k, d, s, c, z, n⟩ := by
  simp only [fitsF, Bool.and_eq_true, decide_eq_true_eq] at h
  obtain ⟨⟨⟨⟨⟨hk, hz⟩, hd⟩, hs⟩, hc⟩, hn⟩ := h
  subst hk; subst hz
  have dr := field_range hd
  have sr := field_range hs
  obtain rfl := fld0 hc
  obtain rfl : n = 0 := of_decide_eq_true hn
  refine ⟨valid_mk (bad0_of rfl dr sr ⟨Int.le_refl _, show (0 : Int) ≤ 15 by decide⟩) ?_, ?_⟩
  · have e : sizedF ⟨10, d, s, 0, 0, 0⟩ = true := by rw [sizedF, if_neg (by dsimp only; decide), if_neg (by dsimp only; decide), if_neg (by dsimp only; decide)]; rfl
    rw [e, none_any _ 1 _ (by dsimp only; decide), none_any _ 2 _ (by dsimp only; decide), none_zero _ 4, none_zero _ 8, none_zero _ 16]
    rfl
  · show byteOf (rexN true s d) :: 33 :: byteOf (twoN s d) :: [] = byteOf (64 + 8 * 1 + 4 * (s / 8) + (d + 0) / 8) :: byteOf (33 + 0 + 0) :: byteOf (64 * 3 + 8 * (s % 8) + (d + 0) % 8) :: []
    exact list2 (congrArg byteOf (by simp only [rexN, if_true, if_false, Bool.false_eq_true]; omega)) (list2 (rfl) (list2 (congrArg byteOf (by simp only [memN, twoN]; omega)) (rfl)))
theorem form15 {d s c z n k : Int} (h : fitsF ⟨11, 0, 0, true, 1, [41], 3, 0, 2, 1, 0, 0⟩ ⟨k, d, s, c, z, n⟩ = true) : validF ⟨k, d, s, c, z, n⟩ = true ∧ encF ⟨k, d, s, c, z, n⟩ = bytesF ⟨11, 0, 0, true, 1, [41], 3, 0, 2, 1, 0, 0⟩ ⟨k, d, s, c, z, n⟩ := by
  simp only [fitsF, Bool.and_eq_true, decide_eq_true_eq] at h
  obtain ⟨⟨⟨⟨⟨hk, hz⟩, hd⟩, hs⟩, hc⟩, hn⟩ := h
  subst hk; subst hz
  have dr := field_range hd
  have sr := field_range hs
  obtain rfl := fld0 hc
  obtain rfl : n = 0 := of_decide_eq_true hn
  refine ⟨valid_mk (bad0_of rfl dr sr ⟨Int.le_refl _, show (0 : Int) ≤ 15 by decide⟩) ?_, ?_⟩
  · have e : sizedF ⟨11, d, s, 0, 0, 0⟩ = true := by rw [sizedF, if_neg (by dsimp only; decide), if_neg (by dsimp only; decide), if_neg (by dsimp only; decide)]; rfl
    rw [e, none_any _ 1 _ (by dsimp only; decide), none_any _ 2 _ (by dsimp only; decide), none_zero _ 4, none_zero _ 8, none_zero _ 16]
    rfl
  · show byteOf (rexN true s d) :: 41 :: byteOf (twoN s d) :: [] = byteOf (64 + 8 * 1 + 4 * (s / 8) + (d + 0) / 8) :: byteOf (41 + 0 + 0) :: byteOf (64 * 3 + 8 * (s % 8) + (d + 0) % 8) :: []
    exact list2 (congrArg byteOf (by simp only [rexN, if_true, if_false, Bool.false_eq_true]; omega)) (list2 (rfl) (list2 (congrArg byteOf (by simp only [memN, twoN]; omega)) (rfl)))
theorem form16 {d s c z n k : Int} (h : fitsF ⟨12, 0, 0, true, 1, [49], 3, 0, 2, 1, 0, 0⟩ ⟨k, d, s, c, z, n⟩ = true) : validF ⟨k, d, s, c, z, n⟩ = true ∧ encF ⟨k, d, s, c, z, n⟩ = bytesF ⟨12, 0, 0, true, 1, [49], 3, 0, 2, 1, 0, 0⟩ ⟨k, d, s, c, z, n⟩ := by
  simp only [fitsF, Bool.and_eq_true, decide_eq_true_eq] at h
  obtain ⟨⟨⟨⟨⟨hk, hz⟩, hd⟩, hs⟩, hc⟩, hn⟩ := h
  subst hk; subst hz
  have dr := field_range hd
  have sr := field_range hs
  obtain rfl := fld0 hc
  obtain rfl : n = 0 := of_decide_eq_true hn
  refine ⟨valid_mk (bad0_of rfl dr sr ⟨Int.le_refl _, show (0 : Int) ≤ 15 by decide⟩) ?_, ?_⟩
  · have e : sizedF ⟨12, d, s, 0, 0, 0⟩ = true := by rw [sizedF, if_neg (by dsimp only; decide), if_neg (by dsimp only; decide), if_neg (by dsimp only; decide)]; rfl
    rw [e, none_any _ 1 _ (by dsimp only; decide), none_any _ 2 _ (by dsimp only; decide), none_zero _ 4, none_zero _ 8, none_zero _ 16]
    rfl
  · show byteOf (rexN true s d) :: 49 :: byteOf (twoN s d) :: [] = byteOf (64 + 8 * 1 + 4 * (s / 8) + (d + 0) / 8) :: byteOf (49 + 0 + 0) :: byteOf (64 * 3 + 8 * (s % 8) + (d + 0) % 8) :: []
    exact list2 (congrArg byteOf (by simp only [rexN, if_true, if_false, Bool.false_eq_true]; omega)) (list2 (rfl) (list2 (congrArg byteOf (by simp only [memN, twoN]; omega)) (rfl)))
theorem form17 {d s c z n k : Int} (h : fitsF ⟨13, 0, 0, true, 1, [57], 3, 0, 2, 1, 0, 0⟩ ⟨k, d, s, c, z, n⟩ = true) : validF ⟨k, d, s, c, z, n⟩ = true ∧ encF ⟨k, d, s, c, z, n⟩ = bytesF ⟨13, 0, 0, true, 1, [57], 3, 0, 2, 1, 0, 0⟩ ⟨k, d, s, c, z, n⟩ := by
  simp only [fitsF, Bool.and_eq_true, decide_eq_true_eq] at h
  obtain ⟨⟨⟨⟨⟨hk, hz⟩, hd⟩, hs⟩, hc⟩, hn⟩ := h
  subst hk; subst hz
  have dr := field_range hd
  have sr := field_range hs
  obtain rfl := fld0 hc
  obtain rfl : n = 0 := of_decide_eq_true hn
  refine ⟨valid_mk (bad0_of rfl dr sr ⟨Int.le_refl _, show (0 : Int) ≤ 15 by decide⟩) ?_, ?_⟩
  · have e : sizedF ⟨13, d, s, 0, 0, 0⟩ = true := by rw [sizedF, if_neg (by dsimp only; decide), if_neg (by dsimp only; decide), if_neg (by dsimp only; decide)]; rfl
    rw [e, none_any _ 1 _ (by dsimp only; decide), none_any _ 2 _ (by dsimp only; decide), none_zero _ 4, none_zero _ 8, none_zero _ 16]
    rfl
  · show byteOf (rexN true s d) :: 57 :: byteOf (twoN s d) :: [] = byteOf (64 + 8 * 1 + 4 * (s / 8) + (d + 0) / 8) :: byteOf (57 + 0 + 0) :: byteOf (64 * 3 + 8 * (s % 8) + (d + 0) % 8) :: []
    exact list2 (congrArg byteOf (by simp only [rexN, if_true, if_false, Bool.false_eq_true]; omega)) (list2 (rfl) (list2 (congrArg byteOf (by simp only [memN, twoN]; omega)) (rfl)))
theorem form18 {d s c z n k : Int} (h : fitsF ⟨14, 0, 0, true, 1, [133], 3, 0, 2, 1, 0, 0⟩ ⟨k, d, s, c, z, n⟩ = true) : validF ⟨k, d, s, c, z, n⟩ = true ∧ encF ⟨k, d, s, c, z, n⟩ = bytesF ⟨14, 0, 0, true, 1, [133], 3, 0, 2, 1, 0, 0⟩ ⟨k, d, s, c, z, n⟩ := by
  simp only [fitsF, Bool.and_eq_true, decide_eq_true_eq] at h
  obtain ⟨⟨⟨⟨⟨hk, hz⟩, hd⟩, hs⟩, hc⟩, hn⟩ := h
  subst hk; subst hz
  have dr := field_range hd
  have sr := field_range hs
  obtain rfl := fld0 hc
  obtain rfl : n = 0 := of_decide_eq_true hn
  refine ⟨valid_mk (bad0_of rfl dr sr ⟨Int.le_refl _, show (0 : Int) ≤ 15 by decide⟩) ?_, ?_⟩
  · have e : sizedF ⟨14, d, s, 0, 0, 0⟩ = true := by rw [sizedF, if_neg (by dsimp only; decide), if_neg (by dsimp only; decide), if_neg (by dsimp only; decide)]; rfl
    rw [e, none_any _ 1 _ (by dsimp only; decide), none_any _ 2 _ (by dsimp only; decide), none_zero _ 4, none_zero _ 8, none_zero _ 16]
    rfl
  · show byteOf (rexN true s d) :: 133 :: byteOf (twoN s d) :: [] = byteOf (64 + 8 * 1 + 4 * (s / 8) + (d + 0) / 8) :: byteOf (133 + 0 + 0) :: byteOf (64 * 3 + 8 * (s % 8) + (d + 0) % 8) :: []
    exact list2 (congrArg byteOf (by simp only [rexN, if_true, if_false, Bool.false_eq_true]; omega)) (list2 (rfl) (list2 (congrArg byteOf (by simp only [memN, twoN]; omega)) (rfl)))
theorem form19 {d s c z n k : Int} (h : fitsF ⟨15, 0, 0, true, 1, [129], 3, 0, 2, 0, 0, 6⟩ ⟨k, d, s, c, z, n⟩ = true) : validF ⟨k, d, s, c, z, n⟩ = true ∧ encF ⟨k, d, s, c, z, n⟩ = bytesF ⟨15, 0, 0, true, 1, [129], 3, 0, 2, 0, 0, 6⟩ ⟨k, d, s, c, z, n⟩ := by
  simp only [fitsF, Bool.and_eq_true, decide_eq_true_eq] at h
  obtain ⟨⟨⟨⟨⟨hk, hz⟩, hd⟩, hs⟩, hc⟩, hn⟩ := h
  subst hk; subst hz
  have dr := field_range hd
  obtain rfl := fld0 hs
  obtain rfl := fld0 hc
  have hn : smallF n = true := hn
  refine ⟨valid_mk (bad0_of rfl dr ⟨Int.le_refl _, show (0 : Int) ≤ 15 by decide⟩ ⟨Int.le_refl _, show (0 : Int) ≤ 15 by decide⟩) ?_, ?_⟩
  · have e : sizedF ⟨15, d, 0, 0, 0, n⟩ = true := by rw [sizedF, if_neg (by dsimp only; decide), if_neg (by dsimp only; decide), if_neg (by dsimp only; decide), hn, Bool.or_true]
    rw [e, none_any _ 1 _ (by dsimp only; decide), none_zero _ 2, none_any _ 4 _ (by dsimp only; decide), none_zero _ 8, none_zero _ 16]
    rfl
  · show byteOf (rexN true 0 d) :: 129 :: byteOf (twoN 0 d) :: immF n 4 = byteOf (64 + 8 * 1 + 4 * (0 / 8) + (d + 0) / 8) :: byteOf (129 + 0 + 0) :: byteOf (64 * 3 + 8 * (0) + (d + 0) % 8) :: leBytes 4 (n % 18446744073709551616)
    exact list2 (congrArg byteOf (by simp only [rexN, if_true, if_false, Bool.false_eq_true]; omega)) (list2 (rfl) (list2 (congrArg byteOf (by simp only [memN, twoN]; omega)) (imm_mod (by decide) n)))
theorem form20 {d s c z n k : Int} (h : fitsF ⟨16, 0, 0, true, 1, [129], 3, 1, 2, 0, 0, 6⟩ ⟨k, d, s, c, z, n⟩ = true) : validF ⟨k, d, s, c, z, n⟩ = true ∧ encF ⟨k, d, s, c, z, n⟩ = bytesF ⟨16, 0, 0, true, 1, [129], 3, 1, 2, 0, 0, 6⟩ ⟨k, d, s, c, z, n⟩ := by
  simp only [fitsF, Bool.and_eq_true, decide_eq_true_eq] at h
  obtain ⟨⟨⟨⟨⟨hk, hz⟩, hd⟩, hs⟩, hc⟩, hn⟩ := h
  subst hk; subst hz
  have dr := field_range hd
  obtain rfl := fld0 hs
  obtain rfl := fld0 hc
  have hn : smallF n = true := hn
  refine ⟨valid_mk (bad0_of rfl dr ⟨Int.le_refl _, show (0 : Int) ≤ 15 by decide⟩ ⟨Int.le_refl _, show (0 : Int) ≤ 15 by decide⟩) ?_, ?_⟩
  · have e : sizedF ⟨16, d, 0, 0, 0, n⟩ = true := by rw [sizedF, if_neg (by dsimp only; decide), if_neg (by dsimp only; decide), if_neg (by dsimp only; decide), hn, Bool.or_true]
    rw [e, none_any _ 1 _ (by dsimp only; decide), none_zero _ 2, none_any _ 4 _ (by dsimp only; decide), none_zero _ 8, none_zero _ 16]
    rfl
  · show byteOf (rexN true 0 d) :: 129 :: byteOf (twoN 1 d) :: immF n 4 = byteOf (64 + 8 * 1 + 4 * (0 / 8) + (d + 0) / 8) :: byteOf (129 + 0 + 0) :: byteOf (64 * 3 + 8 * (1) + (d + 0) % 8) :: leBytes 4 (n % 18446744073709551616)
    exact list2 (congrArg byteOf (by simp only [rexN, if_true, if_false, Bool.false_eq_true]; omega)) (list2 (rfl) (list2 (congrArg byteOf (by simp only [memN, twoN]; omega)) (imm_mod (by decide) n)))
theorem form21 {d s c z n k : Int} (h : fitsF ⟨17, 0, 0, true, 1, [129], 3, 4, 2, 0, 0, 6⟩ ⟨k, d, s, c, z, n⟩ = true) : validF ⟨k, d, s, c, z, n⟩ = true ∧ encF ⟨k, d, s, c, z, n⟩ = bytesF ⟨17, 0, 0, true, 1, [129], 3, 4, 2, 0, 0, 6⟩ ⟨k, d, s, c, z, n⟩ := by
  simp only [fitsF, Bool.and_eq_true, decide_eq_true_eq] at h
  obtain ⟨⟨⟨⟨⟨hk, hz⟩, hd⟩, hs⟩, hc⟩, hn⟩ := h
  subst hk; subst hz
  have dr := field_range hd
  obtain rfl := fld0 hs
  obtain rfl := fld0 hc
  have hn : smallF n = true := hn
  refine ⟨valid_mk (bad0_of rfl dr ⟨Int.le_refl _, show (0 : Int) ≤ 15 by decide⟩ ⟨Int.le_refl _, show (0 : Int) ≤ 15 by decide⟩) ?_, ?_⟩
  · have e : sizedF ⟨17, d, 0, 0, 0, n⟩ = true := by rw [sizedF, if_neg (by dsimp only; decide), if_neg (by dsimp only; decide), if_neg (by dsimp only; decide), hn, Bool.or_true]
    rw [e, none_any _ 1 _ (by dsimp only; decide), none_zero _ 2, none_any _ 4 _ (by dsimp only; decide), none_zero _ 8, none_zero _ 16]
    rfl
  · show byteOf (rexN true 0 d) :: 129 :: byteOf (twoN 4 d) :: immF n 4 = byteOf (64 + 8 * 1 + 4 * (0 / 8) + (d + 0) / 8) :: byteOf (129 + 0 + 0) :: byteOf (64 * 3 + 8 * (4) + (d + 0) % 8) :: leBytes 4 (n % 18446744073709551616)
    exact list2 (congrArg byteOf (by simp only [rexN, if_true, if_false, Bool.false_eq_true]; omega)) (list2 (rfl) (list2 (congrArg byteOf (by simp only [memN, twoN]; omega)) (imm_mod (by decide) n)))
theorem form22 {d s c z n k : Int} (h : fitsF ⟨18, 0, 0, true, 1, [129], 3, 5, 2, 0, 0, 6⟩ ⟨k, d, s, c, z, n⟩ = true) : validF ⟨k, d, s, c, z, n⟩ = true ∧ encF ⟨k, d, s, c, z, n⟩ = bytesF ⟨18, 0, 0, true, 1, [129], 3, 5, 2, 0, 0, 6⟩ ⟨k, d, s, c, z, n⟩ := by
  simp only [fitsF, Bool.and_eq_true, decide_eq_true_eq] at h
  obtain ⟨⟨⟨⟨⟨hk, hz⟩, hd⟩, hs⟩, hc⟩, hn⟩ := h
  subst hk; subst hz
  have dr := field_range hd
  obtain rfl := fld0 hs
  obtain rfl := fld0 hc
  have hn : smallF n = true := hn
  refine ⟨valid_mk (bad0_of rfl dr ⟨Int.le_refl _, show (0 : Int) ≤ 15 by decide⟩ ⟨Int.le_refl _, show (0 : Int) ≤ 15 by decide⟩) ?_, ?_⟩
  · have e : sizedF ⟨18, d, 0, 0, 0, n⟩ = true := by rw [sizedF, if_neg (by dsimp only; decide), if_neg (by dsimp only; decide), if_neg (by dsimp only; decide), hn, Bool.or_true]
    rw [e, none_any _ 1 _ (by dsimp only; decide), none_zero _ 2, none_any _ 4 _ (by dsimp only; decide), none_zero _ 8, none_zero _ 16]
    rfl
  · show byteOf (rexN true 0 d) :: 129 :: byteOf (twoN 5 d) :: immF n 4 = byteOf (64 + 8 * 1 + 4 * (0 / 8) + (d + 0) / 8) :: byteOf (129 + 0 + 0) :: byteOf (64 * 3 + 8 * (5) + (d + 0) % 8) :: leBytes 4 (n % 18446744073709551616)
    exact list2 (congrArg byteOf (by simp only [rexN, if_true, if_false, Bool.false_eq_true]; omega)) (list2 (rfl) (list2 (congrArg byteOf (by simp only [memN, twoN]; omega)) (imm_mod (by decide) n)))
theorem form23 {d s c z n k : Int} (h : fitsF ⟨19, 0, 0, true, 1, [129], 3, 6, 2, 0, 0, 6⟩ ⟨k, d, s, c, z, n⟩ = true) : validF ⟨k, d, s, c, z, n⟩ = true ∧ encF ⟨k, d, s, c, z, n⟩ = bytesF ⟨19, 0, 0, true, 1, [129], 3, 6, 2, 0, 0, 6⟩ ⟨k, d, s, c, z, n⟩ := by
  simp only [fitsF, Bool.and_eq_true, decide_eq_true_eq] at h
  obtain ⟨⟨⟨⟨⟨hk, hz⟩, hd⟩, hs⟩, hc⟩, hn⟩ := h
  subst hk; subst hz
  have dr := field_range hd
  obtain rfl := fld0 hs
  obtain rfl := fld0 hc
  have hn : smallF n = true := hn
  refine ⟨valid_mk (bad0_of rfl dr ⟨Int.le_refl _, show (0 : Int) ≤ 15 by decide⟩ ⟨Int.le_refl _, show (0 : Int) ≤ 15 by decide⟩) ?_, ?_⟩
  · have e : sizedF ⟨19, d, 0, 0, 0, n⟩ = true := by rw [sizedF, if_neg (by dsimp only; decide), if_neg (by dsimp only; decide), if_neg (by dsimp only; decide), hn, Bool.or_true]
    rw [e, none_any _ 1 _ (by dsimp only; decide), none_zero _ 2, none_any _ 4 _ (by dsimp only; decide), none_zero _ 8, none_zero _ 16]
    rfl
  · show byteOf (rexN true 0 d) :: 129 :: byteOf (twoN 6 d) :: immF n 4 = byteOf (64 + 8 * 1 + 4 * (0 / 8) + (d + 0) / 8) :: byteOf (129 + 0 + 0) :: byteOf (64 * 3 + 8 * (6) + (d + 0) % 8) :: leBytes 4 (n % 18446744073709551616)
    exact list2 (congrArg byteOf (by simp only [rexN, if_true, if_false, Bool.false_eq_true]; omega)) (list2 (rfl) (list2 (congrArg byteOf (by simp only [memN, twoN]; omega)) (imm_mod (by decide) n)))
theorem form24 {d s c z n k : Int} (h : fitsF ⟨20, 0, 0, true, 1, [129], 3, 7, 2, 0, 0, 6⟩ ⟨k, d, s, c, z, n⟩ = true) : validF ⟨k, d, s, c, z, n⟩ = true ∧ encF ⟨k, d, s, c, z, n⟩ = bytesF ⟨20, 0, 0, true, 1, [129], 3, 7, 2, 0, 0, 6⟩ ⟨k, d, s, c, z, n⟩ := by
  simp only [fitsF, Bool.and_eq_true, decide_eq_true_eq] at h
  obtain ⟨⟨⟨⟨⟨hk, hz⟩, hd⟩, hs⟩, hc⟩, hn⟩ := h
  subst hk; subst hz
  have dr := field_range hd
  obtain rfl := fld0 hs
  obtain rfl := fld0 hc
  have hn : smallF n = true := hn
  refine ⟨valid_mk (bad0_of rfl dr ⟨Int.le_refl _, show (0 : Int) ≤ 15 by decide⟩ ⟨Int.le_refl _, show (0 : Int) ≤ 15 by decide⟩) ?_, ?_⟩
  · have e : sizedF ⟨20, d, 0, 0, 0, n⟩ = true := by rw [sizedF, if_neg (by dsimp only; decide), if_neg (by dsimp only; decide), if_neg (by dsimp only; decide), hn, Bool.or_true]
    rw [e, none_any _ 1 _ (by dsimp only; decide), none_zero _ 2, none_any _ 4 _ (by dsimp only; decide), none_zero _ 8, none_zero _ 16]
    rfl
  · show byteOf (rexN true 0 d) :: 129 :: byteOf (twoN 7 d) :: immF n 4 = byteOf (64 + 8 * 1 + 4 * (0 / 8) + (d + 0) / 8) :: byteOf (129 + 0 + 0) :: byteOf (64 * 3 + 8 * (7) + (d + 0) % 8) :: leBytes 4 (n % 18446744073709551616)
    exact list2 (congrArg byteOf (by simp only [rexN, if_true, if_false, Bool.false_eq_true]; omega)) (list2 (rfl) (list2 (congrArg byteOf (by simp only [memN, twoN]; omega)) (imm_mod (by decide) n)))
theorem form25 {d s c z n k : Int} (h : fitsF ⟨21, 0, 0, true, 1, [15, 175], 3, 0, 1, 2, 0, 0⟩ ⟨k, d, s, c, z, n⟩ = true) : validF ⟨k, d, s, c, z, n⟩ = true ∧ encF ⟨k, d, s, c, z, n⟩ = bytesF ⟨21, 0, 0, true, 1, [15, 175], 3, 0, 1, 2, 0, 0⟩ ⟨k, d, s, c, z, n⟩ := by
  simp only [fitsF, Bool.and_eq_true, decide_eq_true_eq] at h
  obtain ⟨⟨⟨⟨⟨hk, hz⟩, hd⟩, hs⟩, hc⟩, hn⟩ := h
  subst hk; subst hz
  have dr := field_range hd
  have sr := field_range hs
  obtain rfl := fld0 hc
  obtain rfl : n = 0 := of_decide_eq_true hn
  refine ⟨valid_mk (bad0_of rfl dr sr ⟨Int.le_refl _, show (0 : Int) ≤ 15 by decide⟩) ?_, ?_⟩
  · have e : sizedF ⟨21, d, s, 0, 0, 0⟩ = true := by rw [sizedF, if_neg (by dsimp only; decide), if_neg (by dsimp only; decide), if_neg (by dsimp only; decide)]; rfl
    rw [e, none_any _ 1 _ (by dsimp only; decide), none_any _ 2 _ (by dsimp only; decide), none_zero _ 4, none_zero _ 8, none_zero _ 16]
    rfl
  · show byteOf (rexN true d s) :: 15 :: 175 :: byteOf (twoN d s) :: [] = byteOf (64 + 8 * 1 + 4 * (d / 8) + (s + 0) / 8) :: byteOf (15 + 0 + 0) :: byteOf (175 + 0 + 0) :: byteOf (64 * 3 + 8 * (d % 8) + (s + 0) % 8) :: []
    exact list2 (congrArg byteOf (by simp only [rexN, if_true, if_false, Bool.false_eq_true]; omega)) (list2 (rfl) (list2 (rfl) (list2 (congrArg byteOf (by simp only [memN, twoN]; omega)) (rfl))))
theorem form26 {d s c z n k : Int} (h : fitsF ⟨22, 0, 0, true, 1, [247], 3, 4, 2, 0, 0, 0⟩ ⟨k, d, s, c, z, n⟩ = true) : validF ⟨k, d, s, c, z, n⟩ = true ∧ encF ⟨k, d, s, c, z, n⟩ = bytesF ⟨22, 0, 0, true, 1, [247], 3, 4, 2, 0, 0, 0⟩ ⟨k, d, s, c, z, n⟩ := by
  simp only [fitsF, Bool.and_eq_true, decide_eq_true_eq] at h
  obtain ⟨⟨⟨⟨⟨hk, hz⟩, hd⟩, hs⟩, hc⟩, hn⟩ := h
  subst hk; subst hz
  have dr := field_range hd
  obtain rfl := fld0 hs
  obtain rfl := fld0 hc
  obtain rfl : n = 0 := of_decide_eq_true hn
  refine ⟨valid_mk (bad0_of rfl dr ⟨Int.le_refl _, show (0 : Int) ≤ 15 by decide⟩ ⟨Int.le_refl _, show (0 : Int) ≤ 15 by decide⟩) ?_, ?_⟩
  · have e : sizedF ⟨22, d, 0, 0, 0, 0⟩ = true := by rw [sizedF, if_neg (by dsimp only; decide), if_neg (by dsimp only; decide), if_neg (by dsimp only; decide)]; rfl
    rw [e, none_any _ 1 _ (by dsimp only; decide), none_zero _ 2, none_zero _ 4, none_zero _ 8, none_zero _ 16]
    rfl
  · show byteOf (rexN true 0 d) :: 247 :: byteOf (twoN 4 d) :: [] = byteOf (64 + 8 * 1 + 4 * (0 / 8) + (d + 0) / 8) :: byteOf (247 + 0 + 0) :: byteOf (64 * 3 + 8 * (4) + (d + 0) % 8) :: []
    exact list2 (congrArg byteOf (by simp only [rexN, if_true, if_false, Bool.false_eq_true]; omega)) (list2 (rfl) (list2 (congrArg byteOf (by simp only [memN, twoN]; omega)) (rfl)))
theorem form27 {d s c z n k : Int} (h : fitsF ⟨23, 0, 0, true, 1, [247], 3, 6, 2, 0, 0, 0⟩ ⟨k, d, s, c, z, n⟩ = true) : validF ⟨k, d, s, c, z, n⟩ = true ∧ encF ⟨k, d, s, c, z, n⟩ = bytesF ⟨23, 0, 0, true, 1, [247], 3, 6, 2, 0, 0, 0⟩ ⟨k, d, s, c, z, n⟩ := by
  simp only [fitsF, Bool.and_eq_true, decide_eq_true_eq] at h
  obtain ⟨⟨⟨⟨⟨hk, hz⟩, hd⟩, hs⟩, hc⟩, hn⟩ := h
  subst hk; subst hz
  have dr := field_range hd
  obtain rfl := fld0 hs
  obtain rfl := fld0 hc
  obtain rfl : n = 0 := of_decide_eq_true hn
  refine ⟨valid_mk (bad0_of rfl dr ⟨Int.le_refl _, show (0 : Int) ≤ 15 by decide⟩ ⟨Int.le_refl _, show (0 : Int) ≤ 15 by decide⟩) ?_, ?_⟩
  · have e : sizedF ⟨23, d, 0, 0, 0, 0⟩ = true := by rw [sizedF, if_neg (by dsimp only; decide), if_neg (by dsimp only; decide), if_neg (by dsimp only; decide)]; rfl
    rw [e, none_any _ 1 _ (by dsimp only; decide), none_zero _ 2, none_zero _ 4, none_zero _ 8, none_zero _ 16]
    rfl
  · show byteOf (rexN true 0 d) :: 247 :: byteOf (twoN 6 d) :: [] = byteOf (64 + 8 * 1 + 4 * (0 / 8) + (d + 0) / 8) :: byteOf (247 + 0 + 0) :: byteOf (64 * 3 + 8 * (6) + (d + 0) % 8) :: []
    exact list2 (congrArg byteOf (by simp only [rexN, if_true, if_false, Bool.false_eq_true]; omega)) (list2 (rfl) (list2 (congrArg byteOf (by simp only [memN, twoN]; omega)) (rfl)))
theorem form28 {d s c z n k : Int} (h : fitsF ⟨24, 0, 0, true, 1, [247], 3, 3, 2, 0, 0, 0⟩ ⟨k, d, s, c, z, n⟩ = true) : validF ⟨k, d, s, c, z, n⟩ = true ∧ encF ⟨k, d, s, c, z, n⟩ = bytesF ⟨24, 0, 0, true, 1, [247], 3, 3, 2, 0, 0, 0⟩ ⟨k, d, s, c, z, n⟩ := by
  simp only [fitsF, Bool.and_eq_true, decide_eq_true_eq] at h
  obtain ⟨⟨⟨⟨⟨hk, hz⟩, hd⟩, hs⟩, hc⟩, hn⟩ := h
  subst hk; subst hz
  have dr := field_range hd
  obtain rfl := fld0 hs
  obtain rfl := fld0 hc
  obtain rfl : n = 0 := of_decide_eq_true hn
  refine ⟨valid_mk (bad0_of rfl dr ⟨Int.le_refl _, show (0 : Int) ≤ 15 by decide⟩ ⟨Int.le_refl _, show (0 : Int) ≤ 15 by decide⟩) ?_, ?_⟩
  · have e : sizedF ⟨24, d, 0, 0, 0, 0⟩ = true := by rw [sizedF, if_neg (by dsimp only; decide), if_neg (by dsimp only; decide), if_neg (by dsimp only; decide)]; rfl
    rw [e, none_any _ 1 _ (by dsimp only; decide), none_zero _ 2, none_zero _ 4, none_zero _ 8, none_zero _ 16]
    rfl
  · show byteOf (rexN true 0 d) :: 247 :: byteOf (twoN 3 d) :: [] = byteOf (64 + 8 * 1 + 4 * (0 / 8) + (d + 0) / 8) :: byteOf (247 + 0 + 0) :: byteOf (64 * 3 + 8 * (3) + (d + 0) % 8) :: []
    exact list2 (congrArg byteOf (by simp only [rexN, if_true, if_false, Bool.false_eq_true]; omega)) (list2 (rfl) (list2 (congrArg byteOf (by simp only [memN, twoN]; omega)) (rfl)))
theorem form29 {d s c z n k : Int} (h : fitsF ⟨25, 0, 0, true, 1, [247], 3, 2, 2, 0, 0, 0⟩ ⟨k, d, s, c, z, n⟩ = true) : validF ⟨k, d, s, c, z, n⟩ = true ∧ encF ⟨k, d, s, c, z, n⟩ = bytesF ⟨25, 0, 0, true, 1, [247], 3, 2, 2, 0, 0, 0⟩ ⟨k, d, s, c, z, n⟩ := by
  simp only [fitsF, Bool.and_eq_true, decide_eq_true_eq] at h
  obtain ⟨⟨⟨⟨⟨hk, hz⟩, hd⟩, hs⟩, hc⟩, hn⟩ := h
  subst hk; subst hz
  have dr := field_range hd
  obtain rfl := fld0 hs
  obtain rfl := fld0 hc
  obtain rfl : n = 0 := of_decide_eq_true hn
  refine ⟨valid_mk (bad0_of rfl dr ⟨Int.le_refl _, show (0 : Int) ≤ 15 by decide⟩ ⟨Int.le_refl _, show (0 : Int) ≤ 15 by decide⟩) ?_, ?_⟩
  · have e : sizedF ⟨25, d, 0, 0, 0, 0⟩ = true := by rw [sizedF, if_neg (by dsimp only; decide), if_neg (by dsimp only; decide), if_neg (by dsimp only; decide)]; rfl
    rw [e, none_any _ 1 _ (by dsimp only; decide), none_zero _ 2, none_zero _ 4, none_zero _ 8, none_zero _ 16]
    rfl
  · show byteOf (rexN true 0 d) :: 247 :: byteOf (twoN 2 d) :: [] = byteOf (64 + 8 * 1 + 4 * (0 / 8) + (d + 0) / 8) :: byteOf (247 + 0 + 0) :: byteOf (64 * 3 + 8 * (2) + (d + 0) % 8) :: []
    exact list2 (congrArg byteOf (by simp only [rexN, if_true, if_false, Bool.false_eq_true]; omega)) (list2 (rfl) (list2 (congrArg byteOf (by simp only [memN, twoN]; omega)) (rfl)))
theorem form30 {d s c z n k : Int} (h : fitsF ⟨26, 0, 0, true, 1, [211], 3, 4, 2, 0, 0, 0⟩ ⟨k, d, s, c, z, n⟩ = true) : validF ⟨k, d, s, c, z, n⟩ = true ∧ encF ⟨k, d, s, c, z, n⟩ = bytesF ⟨26, 0, 0, true, 1, [211], 3, 4, 2, 0, 0, 0⟩ ⟨k, d, s, c, z, n⟩ := by
  simp only [fitsF, Bool.and_eq_true, decide_eq_true_eq] at h
  obtain ⟨⟨⟨⟨⟨hk, hz⟩, hd⟩, hs⟩, hc⟩, hn⟩ := h
  subst hk; subst hz
  have dr := field_range hd
  obtain rfl := fld0 hs
  obtain rfl := fld0 hc
  obtain rfl : n = 0 := of_decide_eq_true hn
  refine ⟨valid_mk (bad0_of rfl dr ⟨Int.le_refl _, show (0 : Int) ≤ 15 by decide⟩ ⟨Int.le_refl _, show (0 : Int) ≤ 15 by decide⟩) ?_, ?_⟩
  · have e : sizedF ⟨26, d, 0, 0, 0, 0⟩ = true := by rw [sizedF, if_neg (by dsimp only; decide), if_neg (by dsimp only; decide), if_neg (by dsimp only; decide)]; rfl
    rw [e, none_any _ 1 _ (by dsimp only; decide), none_zero _ 2, none_zero _ 4, none_zero _ 8, none_zero _ 16]
    rfl
  · show byteOf (rexN true 0 d) :: 211 :: byteOf (twoN 4 d) :: [] = byteOf (64 + 8 * 1 + 4 * (0 / 8) + (d + 0) / 8) :: byteOf (211 + 0 + 0) :: byteOf (64 * 3 + 8 * (4) + (d + 0) % 8) :: []
    exact list2 (congrArg byteOf (by simp only [rexN, if_true, if_false, Bool.false_eq_true]; omega)) (list2 (rfl) (list2 (congrArg byteOf (by simp only [memN, twoN]; omega)) (rfl)))
theorem form31 {d s c z n k : Int} (h : fitsF ⟨27, 0, 0, true, 1, [211], 3, 5, 2, 0, 0, 0⟩ ⟨k, d, s, c, z, n⟩ = true) : validF ⟨k, d, s, c, z, n⟩ = true ∧ encF ⟨k, d, s, c, z, n⟩ = bytesF ⟨27, 0, 0, true, 1, [211], 3, 5, 2, 0, 0, 0⟩ ⟨k, d, s, c, z, n⟩ := by
  simp only [fitsF, Bool.and_eq_true, decide_eq_true_eq] at h
  obtain ⟨⟨⟨⟨⟨hk, hz⟩, hd⟩, hs⟩, hc⟩, hn⟩ := h
  subst hk; subst hz
  have dr := field_range hd
  obtain rfl := fld0 hs
  obtain rfl := fld0 hc
  obtain rfl : n = 0 := of_decide_eq_true hn
  refine ⟨valid_mk (bad0_of rfl dr ⟨Int.le_refl _, show (0 : Int) ≤ 15 by decide⟩ ⟨Int.le_refl _, show (0 : Int) ≤ 15 by decide⟩) ?_, ?_⟩
  · have e : sizedF ⟨27, d, 0, 0, 0, 0⟩ = true := by rw [sizedF, if_neg (by dsimp only; decide), if_neg (by dsimp only; decide), if_neg (by dsimp only; decide)]; rfl
    rw [e, none_any _ 1 _ (by dsimp only; decide), none_zero _ 2, none_zero _ 4, none_zero _ 8, none_zero _ 16]
    rfl
  · show byteOf (rexN true 0 d) :: 211 :: byteOf (twoN 5 d) :: [] = byteOf (64 + 8 * 1 + 4 * (0 / 8) + (d + 0) / 8) :: byteOf (211 + 0 + 0) :: byteOf (64 * 3 + 8 * (5) + (d + 0) % 8) :: []
    exact list2 (congrArg byteOf (by simp only [rexN, if_true, if_false, Bool.false_eq_true]; omega)) (list2 (rfl) (list2 (congrArg byteOf (by simp only [memN, twoN]; omega)) (rfl)))
theorem form32 {d s c z n k : Int} (h : fitsF ⟨28, 0, 0, true, 1, [211], 3, 7, 2, 0, 0, 0⟩ ⟨k, d, s, c, z, n⟩ = true) : validF ⟨k, d, s, c, z, n⟩ = true ∧ encF ⟨k, d, s, c, z, n⟩ = bytesF ⟨28, 0, 0, true, 1, [211], 3, 7, 2, 0, 0, 0⟩ ⟨k, d, s, c, z, n⟩ := by
  simp only [fitsF, Bool.and_eq_true, decide_eq_true_eq] at h
  obtain ⟨⟨⟨⟨⟨hk, hz⟩, hd⟩, hs⟩, hc⟩, hn⟩ := h
  subst hk; subst hz
  have dr := field_range hd
  obtain rfl := fld0 hs
  obtain rfl := fld0 hc
  obtain rfl : n = 0 := of_decide_eq_true hn
  refine ⟨valid_mk (bad0_of rfl dr ⟨Int.le_refl _, show (0 : Int) ≤ 15 by decide⟩ ⟨Int.le_refl _, show (0 : Int) ≤ 15 by decide⟩) ?_, ?_⟩
  · have e : sizedF ⟨28, d, 0, 0, 0, 0⟩ = true := by rw [sizedF, if_neg (by dsimp only; decide), if_neg (by dsimp only; decide), if_neg (by dsimp only; decide)]; rfl
    rw [e, none_any _ 1 _ (by dsimp only; decide), none_zero _ 2, none_zero _ 4, none_zero _ 8, none_zero _ 16]
    rfl
  · show byteOf (rexN true 0 d) :: 211 :: byteOf (twoN 7 d) :: [] = byteOf (64 + 8 * 1 + 4 * (0 / 8) + (d + 0) / 8) :: byteOf (211 + 0 + 0) :: byteOf (64 * 3 + 8 * (7) + (d + 0) % 8) :: []
    exact list2 (congrArg byteOf (by simp only [rexN, if_true, if_false, Bool.false_eq_true]; omega)) (list2 (rfl) (list2 (congrArg byteOf (by simp only [memN, twoN]; omega)) (rfl)))
theorem form33 {d s c z n k : Int} (h : fitsF ⟨29, 0, 0, true, 1, [193], 3, 4, 2, 0, 0, 5⟩ ⟨k, d, s, c, z, n⟩ = true) : validF ⟨k, d, s, c, z, n⟩ = true ∧ encF ⟨k, d, s, c, z, n⟩ = bytesF ⟨29, 0, 0, true, 1, [193], 3, 4, 2, 0, 0, 5⟩ ⟨k, d, s, c, z, n⟩ := by
  simp only [fitsF, Bool.and_eq_true, decide_eq_true_eq] at h
  obtain ⟨⟨⟨⟨⟨hk, hz⟩, hd⟩, hs⟩, hc⟩, hn⟩ := h
  subst hk; subst hz
  have dr := field_range hd
  obtain rfl := fld0 hs
  obtain rfl := fld0 hc
  have hn : inF n 0 63 = true := hn
  refine ⟨valid_mk (bad0_of rfl dr ⟨Int.le_refl _, show (0 : Int) ≤ 15 by decide⟩ ⟨Int.le_refl _, show (0 : Int) ≤ 15 by decide⟩) ?_, ?_⟩
  · have e : sizedF ⟨29, d, 0, 0, 0, n⟩ = true := by rw [sizedF, if_neg (by dsimp only; decide), if_neg (by dsimp only; decide), if_pos (by dsimp only; decide), hn]
    rw [e, none_any _ 1 _ (by dsimp only; decide), none_zero _ 2, none_any _ 4 _ (by dsimp only; decide), none_zero _ 8, none_zero _ 16]
    rfl
  · show byteOf (rexN true 0 d) :: 193 :: byteOf (twoN 4 d) :: immF n 1 = byteOf (64 + 8 * 1 + 4 * (0 / 8) + (d + 0) / 8) :: byteOf (193 + 0 + 0) :: byteOf (64 * 3 + 8 * (4) + (d + 0) % 8) :: leBytes 1 (n % 18446744073709551616)
    exact list2 (congrArg byteOf (by simp only [rexN, if_true, if_false, Bool.false_eq_true]; omega)) (list2 (rfl) (list2 (congrArg byteOf (by simp only [memN, twoN]; omega)) (imm_mod (by decide) n)))
theorem form34 {d s c z n k : Int} (h : fitsF ⟨30, 0, 0, true, 1, [193], 3, 5, 2, 0, 0, 5⟩ ⟨k, d, s, c, z, n⟩ = true) : validF ⟨k, d, s, c, z, n⟩ = true ∧ encF ⟨k, d, s, c, z, n⟩ = bytesF ⟨30, 0, 0, true, 1, [193], 3, 5, 2, 0, 0, 5⟩ ⟨k, d, s, c, z, n⟩ := by
  simp only [fitsF, Bool.and_eq_true, decide_eq_true_eq] at h
  obtain ⟨⟨⟨⟨⟨hk, hz⟩, hd⟩, hs⟩, hc⟩, hn⟩ := h
  subst hk; subst hz
  have dr := field_range hd
  obtain rfl := fld0 hs
  obtain rfl := fld0 hc
  have hn : inF n 0 63 = true := hn
  refine ⟨valid_mk (bad0_of rfl dr ⟨Int.le_refl _, show (0 : Int) ≤ 15 by decide⟩ ⟨Int.le_refl _, show (0 : Int) ≤ 15 by decide⟩) ?_, ?_⟩
  · have e : sizedF ⟨30, d, 0, 0, 0, n⟩ = true := by rw [sizedF, if_neg (by dsimp only; decide), if_neg (by dsimp only; decide), if_pos (by dsimp only; decide), hn]
    rw [e, none_any _ 1 _ (by dsimp only; decide), none_zero _ 2, none_any _ 4 _ (by dsimp only; decide), none_zero _ 8, none_zero _ 16]
    rfl
  · show byteOf (rexN true 0 d) :: 193 :: byteOf (twoN 5 d) :: immF n 1 = byteOf (64 + 8 * 1 + 4 * (0 / 8) + (d + 0) / 8) :: byteOf (193 + 0 + 0) :: byteOf (64 * 3 + 8 * (5) + (d + 0) % 8) :: leBytes 1 (n % 18446744073709551616)
    exact list2 (congrArg byteOf (by simp only [rexN, if_true, if_false, Bool.false_eq_true]; omega)) (list2 (rfl) (list2 (congrArg byteOf (by simp only [memN, twoN]; omega)) (imm_mod (by decide) n)))
theorem form35 {d s c z n k : Int} (h : fitsF ⟨31, 0, 0, true, 1, [193], 3, 7, 2, 0, 0, 5⟩ ⟨k, d, s, c, z, n⟩ = true) : validF ⟨k, d, s, c, z, n⟩ = true ∧ encF ⟨k, d, s, c, z, n⟩ = bytesF ⟨31, 0, 0, true, 1, [193], 3, 7, 2, 0, 0, 5⟩ ⟨k, d, s, c, z, n⟩ := by
  simp only [fitsF, Bool.and_eq_true, decide_eq_true_eq] at h
  obtain ⟨⟨⟨⟨⟨hk, hz⟩, hd⟩, hs⟩, hc⟩, hn⟩ := h
  subst hk; subst hz
  have dr := field_range hd
  obtain rfl := fld0 hs
  obtain rfl := fld0 hc
  have hn : inF n 0 63 = true := hn
  refine ⟨valid_mk (bad0_of rfl dr ⟨Int.le_refl _, show (0 : Int) ≤ 15 by decide⟩ ⟨Int.le_refl _, show (0 : Int) ≤ 15 by decide⟩) ?_, ?_⟩
  · have e : sizedF ⟨31, d, 0, 0, 0, n⟩ = true := by rw [sizedF, if_neg (by dsimp only; decide), if_neg (by dsimp only; decide), if_pos (by dsimp only; decide), hn]
    rw [e, none_any _ 1 _ (by dsimp only; decide), none_zero _ 2, none_any _ 4 _ (by dsimp only; decide), none_zero _ 8, none_zero _ 16]
    rfl
  · show byteOf (rexN true 0 d) :: 193 :: byteOf (twoN 7 d) :: immF n 1 = byteOf (64 + 8 * 1 + 4 * (0 / 8) + (d + 0) / 8) :: byteOf (193 + 0 + 0) :: byteOf (64 * 3 + 8 * (7) + (d + 0) % 8) :: leBytes 1 (n % 18446744073709551616)
    exact list2 (congrArg byteOf (by simp only [rexN, if_true, if_false, Bool.false_eq_true]; omega)) (list2 (rfl) (list2 (congrArg byteOf (by simp only [memN, twoN]; omega)) (imm_mod (by decide) n)))
theorem form36 {d s c z n k : Int} (h : fitsF ⟨32, 0, 0, true, 0, [15, 144], 3, 0, 2, 0, 4, 0⟩ ⟨k, d, s, c, z, n⟩ = true) : validF ⟨k, d, s, c, z, n⟩ = true ∧ encF ⟨k, d, s, c, z, n⟩ = bytesF ⟨32, 0, 0, true, 0, [15, 144], 3, 0, 2, 0, 4, 0⟩ ⟨k, d, s, c, z, n⟩ := by
  simp only [fitsF, Bool.and_eq_true, decide_eq_true_eq] at h
  obtain ⟨⟨⟨⟨⟨hk, hz⟩, hd⟩, hs⟩, hc⟩, hn⟩ := h
  subst hk; subst hz
  have dr := field_range hd
  obtain rfl := fld0 hs
  have cr := field_range hc
  obtain rfl : n = 0 := of_decide_eq_true hn
  refine ⟨valid_mk (bad0_of rfl dr ⟨Int.le_refl _, show (0 : Int) ≤ 15 by decide⟩ cr) ?_, ?_⟩
  · have e : sizedF ⟨32, d, 0, c, 0, 0⟩ = true := by rw [sizedF, if_neg (by dsimp only; decide), if_neg (by dsimp only; decide), if_neg (by dsimp only; decide)]; rfl
    rw [e, none_any _ 1 _ (by dsimp only; decide), none_zero _ 2, none_zero _ 4, none_any _ 8 _ (by dsimp only; decide), none_zero _ 16]
    rfl
  · show byteOf (rexN false 0 d) :: 15 :: byteOf (144 + c) :: byteOf (twoN 0 d) :: [] = byteOf (64 + 8 * 0 + 4 * (0 / 8) + (d + 0) / 8) :: byteOf (15 + 0 + 0) :: byteOf (144 + c + 0) :: byteOf (64 * 3 + 8 * (0) + (d + 0) % 8) :: []
    exact list2 (congrArg byteOf (by simp only [rexN, if_true, if_false, Bool.false_eq_true]; omega)) (list2 (rfl) (list2 (congrArg byteOf (by omega)) (list2 (congrArg byteOf (by simp only [memN, twoN]; omega)) (rfl))))
theorem form37 {d s c z n k : Int} (h : fitsF ⟨33, 0, 0, true, 1, [15, 182], 3, 0, 1, 2, 0, 0⟩ ⟨k, d, s, c, z, n⟩ = true) : validF ⟨k, d, s, c, z, n⟩ = true ∧ encF ⟨k, d, s, c, z, n⟩ = bytesF ⟨33, 0, 0, true, 1, [15, 182], 3, 0, 1, 2, 0, 0⟩ ⟨k, d, s, c, z, n⟩ := by
  simp only [fitsF, Bool.and_eq_true, decide_eq_true_eq] at h
  obtain ⟨⟨⟨⟨⟨hk, hz⟩, hd⟩, hs⟩, hc⟩, hn⟩ := h
  subst hk; subst hz
  have dr := field_range hd
  have sr := field_range hs
  obtain rfl := fld0 hc
  obtain rfl : n = 0 := of_decide_eq_true hn
  refine ⟨valid_mk (bad0_of rfl dr sr ⟨Int.le_refl _, show (0 : Int) ≤ 15 by decide⟩) ?_, ?_⟩
  · have e : sizedF ⟨33, d, s, 0, 0, 0⟩ = true := by rw [sizedF, if_neg (by dsimp only; decide), if_neg (by dsimp only; decide), if_neg (by dsimp only; decide)]; rfl
    rw [e, none_any _ 1 _ (by dsimp only; decide), none_any _ 2 _ (by dsimp only; decide), none_zero _ 4, none_zero _ 8, none_zero _ 16]
    rfl
  · show byteOf (rexN true d s) :: 15 :: 182 :: byteOf (twoN d s) :: [] = byteOf (64 + 8 * 1 + 4 * (d / 8) + (s + 0) / 8) :: byteOf (15 + 0 + 0) :: byteOf (182 + 0 + 0) :: byteOf (64 * 3 + 8 * (d % 8) + (s + 0) % 8) :: []
    exact list2 (congrArg byteOf (by simp only [rexN, if_true, if_false, Bool.false_eq_true]; omega)) (list2 (rfl) (list2 (rfl) (list2 (congrArg byteOf (by simp only [memN, twoN]; omega)) (rfl))))
theorem form38 {d s c z n k : Int} (h : fitsF ⟨34, 0, 0, true, 1, [15, 64], 3, 0, 1, 2, 4, 0⟩ ⟨k, d, s, c, z, n⟩ = true) : validF ⟨k, d, s, c, z, n⟩ = true ∧ encF ⟨k, d, s, c, z, n⟩ = bytesF ⟨34, 0, 0, true, 1, [15, 64], 3, 0, 1, 2, 4, 0⟩ ⟨k, d, s, c, z, n⟩ := by
  simp only [fitsF, Bool.and_eq_true, decide_eq_true_eq] at h
  obtain ⟨⟨⟨⟨⟨hk, hz⟩, hd⟩, hs⟩, hc⟩, hn⟩ := h
  subst hk; subst hz
  have dr := field_range hd
  have sr := field_range hs
  have cr := field_range hc
  obtain rfl : n = 0 := of_decide_eq_true hn
  refine ⟨valid_mk (bad0_of rfl dr sr cr) ?_, ?_⟩
  · have e : sizedF ⟨34, d, s, c, 0, 0⟩ = true := by rw [sizedF, if_neg (by dsimp only; decide), if_neg (by dsimp only; decide), if_neg (by dsimp only; decide)]; rfl
    rw [e, none_any _ 1 _ (by dsimp only; decide), none_any _ 2 _ (by dsimp only; decide), none_zero _ 4, none_any _ 8 _ (by dsimp only; decide), none_zero _ 16]
    rfl
  · show byteOf (rexN true d s) :: 15 :: byteOf (64 + c) :: byteOf (twoN d s) :: [] = byteOf (64 + 8 * 1 + 4 * (d / 8) + (s + 0) / 8) :: byteOf (15 + 0 + 0) :: byteOf (64 + c + 0) :: byteOf (64 * 3 + 8 * (d % 8) + (s + 0) % 8) :: []
    exact list2 (congrArg byteOf (by simp only [rexN, if_true, if_false, Bool.false_eq_true]; omega)) (list2 (rfl) (list2 (congrArg byteOf (by omega)) (list2 (congrArg byteOf (by simp only [memN, twoN]; omega)) (rfl))))
theorem form39 {d s c z n k : Int} (h : fitsF ⟨35, 1, 0, false, 0, [235], -1, 0, 0, 0, 0, 5⟩ ⟨k, d, s, c, z, n⟩ = true) : validF ⟨k, d, s, c, z, n⟩ = true ∧ encF ⟨k, d, s, c, z, n⟩ = bytesF ⟨35, 1, 0, false, 0, [235], -1, 0, 0, 0, 0, 5⟩ ⟨k, d, s, c, z, n⟩ := by
  simp only [fitsF, Bool.and_eq_true, decide_eq_true_eq] at h
  obtain ⟨⟨⟨⟨⟨hk, hz⟩, hd⟩, hs⟩, hc⟩, hn⟩ := h
  subst hk; subst hz
  obtain rfl := fld0 hd
  obtain rfl := fld0 hs
  obtain rfl := fld0 hc
  have hn : inF n (-128) 127 = true := hn
  refine ⟨valid_mk (bad0_of rfl ⟨Int.le_refl _, show (0 : Int) ≤ 15 by decide⟩ ⟨Int.le_refl _, show (0 : Int) ≤ 15 by decide⟩ ⟨Int.le_refl _, show (0 : Int) ≤ 15 by decide⟩) ?_, ?_⟩
  · have e : sizedF ⟨35, 0, 0, 0, 1, n⟩ = true := by rw [sizedF, if_neg (by dsimp only; decide), if_pos (by dsimp only; decide), hn]; simp
    rw [e, none_zero _ 1, none_zero _ 2, none_any _ 4 _ (by dsimp only; decide), none_zero _ 8, none_any _ 16 _ (by dsimp only; decide)]
    rfl
  · show 235 :: immF n 1 = byteOf (235 + 0 + 0) :: leBytes 1 (n % 18446744073709551616)
    exact list2 (rfl) (imm_mod (by decide) n)
theorem form40 {d s c z n k : Int} (h : fitsF ⟨35, 4, 0, false, 0, [233], -1, 0, 0, 0, 0, 6⟩ ⟨k, d, s, c, z, n⟩ = true) : validF ⟨k, d, s, c, z, n⟩ = true ∧ encF ⟨k, d, s, c, z, n⟩ = bytesF ⟨35, 4, 0, false, 0, [233], -1, 0, 0, 0, 0, 6⟩ ⟨k, d, s, c, z, n⟩ := by
  simp only [fitsF, Bool.and_eq_true, decide_eq_true_eq] at h
  obtain ⟨⟨⟨⟨⟨hk, hz⟩, hd⟩, hs⟩, hc⟩, hn⟩ := h
  subst hk; subst hz
  obtain rfl := fld0 hd
  obtain rfl := fld0 hs
  obtain rfl := fld0 hc
  have hn : smallF n = true := hn
  refine ⟨valid_mk (bad0_of rfl ⟨Int.le_refl _, show (0 : Int) ≤ 15 by decide⟩ ⟨Int.le_refl _, show (0 : Int) ≤ 15 by decide⟩ ⟨Int.le_refl _, show (0 : Int) ≤ 15 by decide⟩) ?_, ?_⟩
  · have e : sizedF ⟨35, 0, 0, 0, 4, n⟩ = true := by rw [sizedF, if_neg (by dsimp only; decide), if_pos (by dsimp only; decide), hn]; simp
    rw [e, none_zero _ 1, none_zero _ 2, none_any _ 4 _ (by dsimp only; decide), none_zero _ 8, none_any _ 16 _ (by dsimp only; decide)]
    rfl
  · show 233 :: immF n 4 = byteOf (233 + 0 + 0) :: leBytes 4 (n % 18446744073709551616)
    exact list2 (rfl) (imm_mod (by decide) n)
theorem form41 {d s c z n k : Int} (h : fitsF ⟨36, 1, 0, false, 0, [112], -1, 0, 0, 0, 4, 5⟩ ⟨k, d, s, c, z, n⟩ = true) : validF ⟨k, d, s, c, z, n⟩ = true ∧ encF ⟨k, d, s, c, z, n⟩ = bytesF ⟨36, 1, 0, false, 0, [112], -1, 0, 0, 0, 4, 5⟩ ⟨k, d, s, c, z, n⟩ := by
  simp only [fitsF, Bool.and_eq_true, decide_eq_true_eq] at h
  obtain ⟨⟨⟨⟨⟨hk, hz⟩, hd⟩, hs⟩, hc⟩, hn⟩ := h
  subst hk; subst hz
  obtain rfl := fld0 hd
  obtain rfl := fld0 hs
  have cr := field_range hc
  have hn : inF n (-128) 127 = true := hn
  refine ⟨valid_mk (bad0_of rfl ⟨Int.le_refl _, show (0 : Int) ≤ 15 by decide⟩ ⟨Int.le_refl _, show (0 : Int) ≤ 15 by decide⟩ cr) ?_, ?_⟩
  · have e : sizedF ⟨36, 0, 0, c, 1, n⟩ = true := by rw [sizedF, if_neg (by dsimp only; decide), if_pos (by dsimp only; decide), hn]; simp
    rw [e, none_zero _ 1, none_zero _ 2, none_any _ 4 _ (by dsimp only; decide), none_any _ 8 _ (by dsimp only; decide), none_any _ 16 _ (by dsimp only; decide)]
    rfl
  · show byteOf (112 + c) :: immF n 1 = byteOf (112 + c + 0) :: leBytes 1 (n % 18446744073709551616)
    exact list2 (congrArg byteOf (by omega)) (imm_mod (by decide) n)
theorem form42 {d s c z n k : Int} (h : fitsF ⟨36, 4, 0, false, 0, [15, 128], -1, 0, 0, 0, 4, 6⟩ ⟨k, d, s, c, z, n⟩ = true) : validF ⟨k, d, s, c, z, n⟩ = true ∧ encF ⟨k, d, s, c, z, n⟩ = bytesF ⟨36, 4, 0, false, 0, [15, 128], -1, 0, 0, 0, 4, 6⟩ ⟨k, d, s, c, z, n⟩ := by
  simp only [fitsF, Bool.and_eq_true, decide_eq_true_eq] at h
  obtain ⟨⟨⟨⟨⟨hk, hz⟩, hd⟩, hs⟩, hc⟩, hn⟩ := h
  subst hk; subst hz
  obtain rfl := fld0 hd
  obtain rfl := fld0 hs
  have cr := field_range hc
  have hn : smallF n = true := hn
  refine ⟨valid_mk (bad0_of rfl ⟨Int.le_refl _, show (0 : Int) ≤ 15 by decide⟩ ⟨Int.le_refl _, show (0 : Int) ≤ 15 by decide⟩ cr) ?_, ?_⟩
  · have e : sizedF ⟨36, 0, 0, c, 4, n⟩ = true := by rw [sizedF, if_neg (by dsimp only; decide), if_pos (by dsimp only; decide), hn]; simp
    rw [e, none_zero _ 1, none_zero _ 2, none_any _ 4 _ (by dsimp only; decide), none_any _ 8 _ (by dsimp only; decide), none_any _ 16 _ (by dsimp only; decide)]
    rfl
  · show 15 :: byteOf (128 + c) :: immF n 4 = byteOf (15 + 0 + 0) :: byteOf (128 + c + 0) :: leBytes 4 (n % 18446744073709551616)
    exact list2 (rfl) (list2 (congrArg byteOf (by omega)) (imm_mod (by decide) n))
theorem form43 {d s c z n k : Int} (h : fitsF ⟨37, 0, 0, false, 0, [232], -1, 0, 0, 0, 0, 6⟩ ⟨k, d, s, c, z, n⟩ = true) : validF ⟨k, d, s, c, z, n⟩ = true ∧ encF ⟨k, d, s, c, z, n⟩ = bytesF ⟨37, 0, 0, false, 0, [232], -1, 0, 0, 0, 0, 6⟩ ⟨k, d, s, c, z, n⟩ := by
  simp only [fitsF, Bool.and_eq_true, decide_eq_true_eq] at h
  obtain ⟨⟨⟨⟨⟨hk, hz⟩, hd⟩, hs⟩, hc⟩, hn⟩ := h
  subst hk; subst hz
  obtain rfl := fld0 hd
  obtain rfl := fld0 hs
  obtain rfl := fld0 hc
  have hn : smallF n = true := hn
  refine ⟨valid_mk (bad0_of rfl ⟨Int.le_refl _, show (0 : Int) ≤ 15 by decide⟩ ⟨Int.le_refl _, show (0 : Int) ≤ 15 by decide⟩ ⟨Int.le_refl _, show (0 : Int) ≤ 15 by decide⟩) ?_, ?_⟩
  · have e : sizedF ⟨37, 0, 0, 0, 0, n⟩ = true := by rw [sizedF, if_neg (by dsimp only; decide), if_neg (by dsimp only; decide), if_neg (by dsimp only; decide), hn, Bool.or_true]
    rw [e, none_zero _ 1, none_zero _ 2, none_any _ 4 _ (by dsimp only; decide), none_zero _ 8, none_zero _ 16]
    rfl
  · show 232 :: immF n 4 = byteOf (232 + 0 + 0) :: leBytes 4 (n % 18446744073709551616)
    exact list2 (rfl) (imm_mod (by decide) n)
theorem form44 {d s c z n k : Int} (h : fitsF ⟨38, 0, 0, true, 0, [255], 3, 2, 2, 0, 0, 0⟩ ⟨k, d, s, c, z, n⟩ = true) : validF ⟨k, d, s, c, z, n⟩ = true ∧ encF ⟨k, d, s, c, z, n⟩ = bytesF ⟨38, 0, 0, true, 0, [255], 3, 2, 2, 0, 0, 0⟩ ⟨k, d, s, c, z, n⟩ := by
  simp only [fitsF, Bool.and_eq_true, decide_eq_true_eq] at h
  obtain ⟨⟨⟨⟨⟨hk, hz⟩, hd⟩, hs⟩, hc⟩, hn⟩ := h
  subst hk; subst hz
  have dr := field_range hd
  obtain rfl := fld0 hs
  obtain rfl := fld0 hc
  obtain rfl : n = 0 := of_decide_eq_true hn
  refine ⟨valid_mk (bad0_of rfl dr ⟨Int.le_refl _, show (0 : Int) ≤ 15 by decide⟩ ⟨Int.le_refl _, show (0 : Int) ≤ 15 by decide⟩) ?_, ?_⟩
  · have e : sizedF ⟨38, d, 0, 0, 0, 0⟩ = true := by rw [sizedF, if_neg (by dsimp only; decide), if_neg (by dsimp only; decide), if_neg (by dsimp only; decide)]; rfl
    rw [e, none_any _ 1 _ (by dsimp only; decide), none_zero _ 2, none_zero _ 4, none_zero _ 8, none_zero _ 16]
    rfl
  · show byteOf (rexN false 0 d) :: 255 :: byteOf (twoN 2 d) :: [] = byteOf (64 + 8 * 0 + 4 * (0 / 8) + (d + 0) / 8) :: byteOf (255 + 0 + 0) :: byteOf (64 * 3 + 8 * (2) + (d + 0) % 8) :: []
    exact list2 (congrArg byteOf (by simp only [rexN, if_true, if_false, Bool.false_eq_true]; omega)) (list2 (rfl) (list2 (congrArg byteOf (by simp only [memN, twoN]; omega)) (rfl)))
theorem form45 {d s c z n k : Int} (h : fitsF ⟨39, 0, 0, true, 0, [255], 3, 4, 2, 0, 0, 0⟩ ⟨k, d, s, c, z, n⟩ = true) : validF ⟨k, d, s, c, z, n⟩ = true ∧ encF ⟨k, d, s, c, z, n⟩ = bytesF ⟨39, 0, 0, true, 0, [255], 3, 4, 2, 0, 0, 0⟩ ⟨k, d, s, c, z, n⟩ := by
  simp only [fitsF, Bool.and_eq_true, decide_eq_true_eq] at h
  obtain ⟨⟨⟨⟨⟨hk, hz⟩, hd⟩, hs⟩, hc⟩, hn⟩ := h
  subst hk; subst hz
  have dr := field_range hd
  obtain rfl := fld0 hs
  obtain rfl := fld0 hc
  obtain rfl : n = 0 := of_decide_eq_true hn
  refine ⟨valid_mk (bad0_of rfl dr ⟨Int.le_refl _, show (0 : Int) ≤ 15 by decide⟩ ⟨Int.le_refl _, show (0 : Int) ≤ 15 by decide⟩) ?_, ?_⟩
  · have e : sizedF ⟨39, d, 0, 0, 0, 0⟩ = true := by rw [sizedF, if_neg (by dsimp only; decide), if_neg (by dsimp only; decide), if_neg (by dsimp only; decide)]; rfl
    rw [e, none_any _ 1 _ (by dsimp only; decide), none_zero _ 2, none_zero _ 4, none_zero _ 8, none_zero _ 16]
    rfl
  · show byteOf (rexN false 0 d) :: 255 :: byteOf (twoN 4 d) :: [] = byteOf (64 + 8 * 0 + 4 * (0 / 8) + (d + 0) / 8) :: byteOf (255 + 0 + 0) :: byteOf (64 * 3 + 8 * (4) + (d + 0) % 8) :: []
    exact list2 (congrArg byteOf (by simp only [rexN, if_true, if_false, Bool.false_eq_true]; omega)) (list2 (rfl) (list2 (congrArg byteOf (by simp only [memN, twoN]; omega)) (rfl)))
theorem form46 {d s c z n k : Int} (h : fitsF ⟨40, 0, 0, false, 0, [195], -1, 0, 0, 0, 0, 0⟩ ⟨k, d, s, c, z, n⟩ = true) : validF ⟨k, d, s, c, z, n⟩ = true ∧ encF ⟨k, d, s, c, z, n⟩ = bytesF ⟨40, 0, 0, false, 0, [195], -1, 0, 0, 0, 0, 0⟩ ⟨k, d, s, c, z, n⟩ := by
  simp only [fitsF, Bool.and_eq_true, decide_eq_true_eq] at h
  obtain ⟨⟨⟨⟨⟨hk, hz⟩, hd⟩, hs⟩, hc⟩, hn⟩ := h
  subst hk; subst hz
  obtain rfl := fld0 hd
  obtain rfl := fld0 hs
  obtain rfl := fld0 hc
  obtain rfl : n = 0 := of_decide_eq_true hn
  refine ⟨valid_mk (bad0_of rfl ⟨Int.le_refl _, show (0 : Int) ≤ 15 by decide⟩ ⟨Int.le_refl _, show (0 : Int) ≤ 15 by decide⟩ ⟨Int.le_refl _, show (0 : Int) ≤ 15 by decide⟩) ?_, ?_⟩
  · have e : sizedF ⟨40, 0, 0, 0, 0, 0⟩ = true := by rw [sizedF, if_neg (by dsimp only; decide), if_neg (by dsimp only; decide), if_neg (by dsimp only; decide)]; rfl
    rw [e, none_zero _ 1, none_zero _ 2, none_zero _ 4, none_zero _ 8, none_zero _ 16]
    rfl
  · show 195 :: [] = byteOf (195 + 0 + 0) :: []
    exact list2 (rfl) (rfl)
theorem form47 {d s c z n k : Int} (h : fitsF ⟨41, 0, 0, true, 0, [80], -1, 0, 3, 0, 0, 0⟩ ⟨k, d, s, c, z, n⟩ = true) : validF ⟨k, d, s, c, z, n⟩ = true ∧ encF ⟨k, d, s, c, z, n⟩ = bytesF ⟨41, 0, 0, true, 0, [80], -1, 0, 3, 0, 0, 0⟩ ⟨k, d, s, c, z, n⟩ := by
  simp only [fitsF, Bool.and_eq_true, decide_eq_true_eq] at h
  obtain ⟨⟨⟨⟨⟨hk, hz⟩, hd⟩, hs⟩, hc⟩, hn⟩ := h
  subst hk; subst hz
  have dr := field_range hd
  obtain rfl := fld0 hs
  obtain rfl := fld0 hc
  obtain rfl : n = 0 := of_decide_eq_true hn
  refine ⟨valid_mk (bad0_of rfl dr ⟨Int.le_refl _, show (0 : Int) ≤ 15 by decide⟩ ⟨Int.le_refl _, show (0 : Int) ≤ 15 by decide⟩) ?_, ?_⟩
  · have e : sizedF ⟨41, d, 0, 0, 0, 0⟩ = true := by rw [sizedF, if_neg (by dsimp only; decide), if_neg (by dsimp only; decide), if_neg (by dsimp only; decide)]; rfl
    rw [e, none_any _ 1 _ (by dsimp only; decide), none_zero _ 2, none_zero _ 4, none_zero _ 8, none_zero _ 16]
    rfl
  · show byteOf (rexN false 0 d) :: byteOf (80 + d % 8) :: [] = byteOf (64 + 8 * 0 + 4 * (0 / 8) + (0 + d) / 8) :: byteOf (80 + 0 + d % 8) :: []
    exact list2 (congrArg byteOf (by simp only [rexN, if_true, if_false, Bool.false_eq_true]; omega)) (list2 (congrArg byteOf (by omega)) (rfl))
theorem form48 {d s c z n k : Int} (h : fitsF ⟨42, 0, 0, true, 0, [88], -1, 0, 3, 0, 0, 0⟩ ⟨k, d, s, c, z, n⟩ = true) : validF ⟨k, d, s, c, z, n⟩ = true ∧ encF ⟨k, d, s, c, z, n⟩ = bytesF ⟨42, 0, 0, true, 0, [88], -1, 0, 3, 0, 0, 0⟩ ⟨k, d, s, c, z, n⟩ := by
  simp only [fitsF, Bool.and_eq_true, decide_eq_true_eq] at h
  obtain ⟨⟨⟨⟨⟨hk, hz⟩, hd⟩, hs⟩, hc⟩, hn⟩ := h
  subst hk; subst hz
  have dr := field_range hd
  obtain rfl := fld0 hs
  obtain rfl := fld0 hc
  obtain rfl : n = 0 := of_decide_eq_true hn
  refine ⟨valid_mk (bad0_of rfl dr ⟨Int.le_refl _, show (0 : Int) ≤ 15 by decide⟩ ⟨Int.le_refl _, show (0 : Int) ≤ 15 by decide⟩) ?_, ?_⟩
  · have e : sizedF ⟨42, d, 0, 0, 0, 0⟩ = true := by rw [sizedF, if_neg (by dsimp only; decide), if_neg (by dsimp only; decide), if_neg (by dsimp only; decide)]; rfl
    rw [e, none_any _ 1 _ (by dsimp only; decide), none_zero _ 2, none_zero _ 4, none_zero _ 8, none_zero _ 16]
    rfl
  · show byteOf (rexN false 0 d) :: byteOf (88 + d % 8) :: [] = byteOf (64 + 8 * 0 + 4 * (0 / 8) + (0 + d) / 8) :: byteOf (88 + 0 + d % 8) :: []
    exact list2 (congrArg byteOf (by simp only [rexN, if_true, if_false, Bool.false_eq_true]; omega)) (list2 (congrArg byteOf (by omega)) (rfl))
theorem form49 {d s c z n k : Int} (h : fitsF ⟨43, 0, 0, false, 0, [15, 5], -1, 0, 0, 0, 0, 0⟩ ⟨k, d, s, c, z, n⟩ = true) : validF ⟨k, d, s, c, z, n⟩ = true ∧ encF ⟨k, d, s, c, z, n⟩ = bytesF ⟨43, 0, 0, false, 0, [15, 5], -1, 0, 0, 0, 0, 0⟩ ⟨k, d, s, c, z, n⟩ := by
  simp only [fitsF, Bool.and_eq_true, decide_eq_true_eq] at h
  obtain ⟨⟨⟨⟨⟨hk, hz⟩, hd⟩, hs⟩, hc⟩, hn⟩ := h
  subst hk; subst hz
  obtain rfl := fld0 hd
  obtain rfl := fld0 hs
  obtain rfl := fld0 hc
  obtain rfl : n = 0 := of_decide_eq_true hn
  refine ⟨valid_mk (bad0_of rfl ⟨Int.le_refl _, show (0 : Int) ≤ 15 by decide⟩ ⟨Int.le_refl _, show (0 : Int) ≤ 15 by decide⟩ ⟨Int.le_refl _, show (0 : Int) ≤ 15 by decide⟩) ?_, ?_⟩
  · have e : sizedF ⟨43, 0, 0, 0, 0, 0⟩ = true := by rw [sizedF, if_neg (by dsimp only; decide), if_neg (by dsimp only; decide), if_neg (by dsimp only; decide)]; rfl
    rw [e, none_zero _ 1, none_zero _ 2, none_zero _ 4, none_zero _ 8, none_zero _ 16]
    rfl
  · show 15 :: 5 :: [] = byteOf (15 + 0 + 0) :: byteOf (5 + 0 + 0) :: []
    exact list2 (rfl) (list2 (rfl) (rfl))
theorem form50 {d s c z n k : Int} (h : fitsF ⟨44, 0, 0, false, 0, [15, 11], -1, 0, 0, 0, 0, 0⟩ ⟨k, d, s, c, z, n⟩ = true) : validF ⟨k, d, s, c, z, n⟩ = true ∧ encF ⟨k, d, s, c, z, n⟩ = bytesF ⟨44, 0, 0, false, 0, [15, 11], -1, 0, 0, 0, 0, 0⟩ ⟨k, d, s, c, z, n⟩ := by
  simp only [fitsF, Bool.and_eq_true, decide_eq_true_eq] at h
  obtain ⟨⟨⟨⟨⟨hk, hz⟩, hd⟩, hs⟩, hc⟩, hn⟩ := h
  subst hk; subst hz
  obtain rfl := fld0 hd
  obtain rfl := fld0 hs
  obtain rfl := fld0 hc
  obtain rfl : n = 0 := of_decide_eq_true hn
  refine ⟨valid_mk (bad0_of rfl ⟨Int.le_refl _, show (0 : Int) ≤ 15 by decide⟩ ⟨Int.le_refl _, show (0 : Int) ≤ 15 by decide⟩ ⟨Int.le_refl _, show (0 : Int) ≤ 15 by decide⟩) ?_, ?_⟩
  · have e : sizedF ⟨44, 0, 0, 0, 0, 0⟩ = true := by rw [sizedF, if_neg (by dsimp only; decide), if_neg (by dsimp only; decide), if_neg (by dsimp only; decide)]; rfl
    rw [e, none_zero _ 1, none_zero _ 2, none_zero _ 4, none_zero _ 8, none_zero _ 16]
    rfl
  · show 15 :: 11 :: [] = byteOf (15 + 0 + 0) :: byteOf (11 + 0 + 0) :: []
    exact list2 (rfl) (list2 (rfl) (rfl))
theorem form51 {d s c z n k : Int} (h : fitsF ⟨45, 0, 102, true, 1, [15, 110], 3, 0, 1, 2, 0, 0⟩ ⟨k, d, s, c, z, n⟩ = true) : validF ⟨k, d, s, c, z, n⟩ = true ∧ encF ⟨k, d, s, c, z, n⟩ = bytesF ⟨45, 0, 102, true, 1, [15, 110], 3, 0, 1, 2, 0, 0⟩ ⟨k, d, s, c, z, n⟩ := by
  simp only [fitsF, Bool.and_eq_true, decide_eq_true_eq] at h
  obtain ⟨⟨⟨⟨⟨hk, hz⟩, hd⟩, hs⟩, hc⟩, hn⟩ := h
  subst hk; subst hz
  have dr := field_range hd
  have sr := field_range hs
  obtain rfl := fld0 hc
  obtain rfl : n = 0 := of_decide_eq_true hn
  refine ⟨valid_mk (bad0_of rfl dr sr ⟨Int.le_refl _, show (0 : Int) ≤ 15 by decide⟩) ?_, ?_⟩
  · have e : sizedF ⟨45, d, s, 0, 0, 0⟩ = true := by rw [sizedF, if_neg (by dsimp only; decide), if_neg (by dsimp only; decide), if_neg (by dsimp only; decide)]; rfl
    rw [e, none_any _ 1 _ (by dsimp only; decide), none_any _ 2 _ (by dsimp only; decide), none_zero _ 4, none_zero _ 8, none_zero _ 16]
    rfl
  · show 102 :: byteOf (rexN true d s) :: 15 :: 110 :: byteOf (twoN d s) :: [] = byteOf 102 :: byteOf (64 + 8 * 1 + 4 * (d / 8) + (s + 0) / 8) :: byteOf (15 + 0 + 0) :: byteOf (110 + 0 + 0) :: byteOf (64 * 3 + 8 * (d % 8) + (s + 0) % 8) :: []
    exact list2 (rfl) (list2 (congrArg byteOf (by simp only [rexN, if_true, if_false, Bool.false_eq_true]; omega)) (list2 (rfl) (list2 (rfl) (list2 (congrArg byteOf (by simp only [memN, twoN]; omega)) (rfl)))))
theorem form52 {d s c z n k : Int} (h : fitsF ⟨46, 0, 102, true, 1, [15, 126], 3, 0, 2, 1, 0, 0⟩ ⟨k, d, s, c, z, n⟩ = true) : validF ⟨k, d, s, c, z, n⟩ = true ∧ encF ⟨k, d, s, c, z, n⟩ = bytesF ⟨46, 0, 102, true, 1, [15, 126], 3, 0, 2, 1, 0, 0⟩ ⟨k, d, s, c, z, n⟩ := by
  simp only [fitsF, Bool.and_eq_true, decide_eq_true_eq] at h
  obtain ⟨⟨⟨⟨⟨hk, hz⟩, hd⟩, hs⟩, hc⟩, hn⟩ := h
  subst hk; subst hz
  have dr := field_range hd
  have sr := field_range hs
  obtain rfl := fld0 hc
  obtain rfl : n = 0 := of_decide_eq_true hn
  refine ⟨valid_mk (bad0_of rfl dr sr ⟨Int.le_refl _, show (0 : Int) ≤ 15 by decide⟩) ?_, ?_⟩
  · have e : sizedF ⟨46, d, s, 0, 0, 0⟩ = true := by rw [sizedF, if_neg (by dsimp only; decide), if_neg (by dsimp only; decide), if_neg (by dsimp only; decide)]; rfl
    rw [e, none_any _ 1 _ (by dsimp only; decide), none_any _ 2 _ (by dsimp only; decide), none_zero _ 4, none_zero _ 8, none_zero _ 16]
    rfl
  · show 102 :: byteOf (rexN true s d) :: 15 :: 126 :: byteOf (twoN s d) :: [] = byteOf 102 :: byteOf (64 + 8 * 1 + 4 * (s / 8) + (d + 0) / 8) :: byteOf (15 + 0 + 0) :: byteOf (126 + 0 + 0) :: byteOf (64 * 3 + 8 * (s % 8) + (d + 0) % 8) :: []
    exact list2 (rfl) (list2 (congrArg byteOf (by simp only [rexN, if_true, if_false, Bool.false_eq_true]; omega)) (list2 (rfl) (list2 (rfl) (list2 (congrArg byteOf (by simp only [memN, twoN]; omega)) (rfl)))))
theorem form53 {d s c z n k : Int} (h : fitsF ⟨47, 0, 242, true, 0, [15, 88], 3, 0, 1, 2, 0, 0⟩ ⟨k, d, s, c, z, n⟩ = true) : validF ⟨k, d, s, c, z, n⟩ = true ∧ encF ⟨k, d, s, c, z, n⟩ = bytesF ⟨47, 0, 242, true, 0, [15, 88], 3, 0, 1, 2, 0, 0⟩ ⟨k, d, s, c, z, n⟩ := by
  simp only [fitsF, Bool.and_eq_true, decide_eq_true_eq] at h
  obtain ⟨⟨⟨⟨⟨hk, hz⟩, hd⟩, hs⟩, hc⟩, hn⟩ := h
  subst hk; subst hz
  have dr := field_range hd
  have sr := field_range hs
  obtain rfl := fld0 hc
  obtain rfl : n = 0 := of_decide_eq_true hn
  refine ⟨valid_mk (bad0_of rfl dr sr ⟨Int.le_refl _, show (0 : Int) ≤ 15 by decide⟩) ?_, ?_⟩
  · have e : sizedF ⟨47, d, s, 0, 0, 0⟩ = true := by rw [sizedF, if_neg (by dsimp only; decide), if_neg (by dsimp only; decide), if_neg (by dsimp only; decide)]; rfl
    rw [e, none_any _ 1 _ (by dsimp only; decide), none_any _ 2 _ (by dsimp only; decide), none_zero _ 4, none_zero _ 8, none_zero _ 16]
    rfl
  · show 242 :: byteOf (rexN false d s) :: 15 :: 88 :: byteOf (twoN d s) :: [] = byteOf 242 :: byteOf (64 + 8 * 0 + 4 * (d / 8) + (s + 0) / 8) :: byteOf (15 + 0 + 0) :: byteOf (88 + 0 + 0) :: byteOf (64 * 3 + 8 * (d % 8) + (s + 0) % 8) :: []
    exact list2 (rfl) (list2 (congrArg byteOf (by simp only [rexN, if_true, if_false, Bool.false_eq_true]; omega)) (list2 (rfl) (list2 (rfl) (list2 (congrArg byteOf (by simp only [memN, twoN]; omega)) (rfl)))))
theorem form54 {d s c z n k : Int} (h : fitsF ⟨48, 0, 242, true, 0, [15, 89], 3, 0, 1, 2, 0, 0⟩ ⟨k, d, s, c, z, n⟩ = true) : validF ⟨k, d, s, c, z, n⟩ = true ∧ encF ⟨k, d, s, c, z, n⟩ = bytesF ⟨48, 0, 242, true, 0, [15, 89], 3, 0, 1, 2, 0, 0⟩ ⟨k, d, s, c, z, n⟩ := by
  simp only [fitsF, Bool.and_eq_true, decide_eq_true_eq] at h
  obtain ⟨⟨⟨⟨⟨hk, hz⟩, hd⟩, hs⟩, hc⟩, hn⟩ := h
  subst hk; subst hz
  have dr := field_range hd
  have sr := field_range hs
  obtain rfl := fld0 hc
  obtain rfl : n = 0 := of_decide_eq_true hn
  refine ⟨valid_mk (bad0_of rfl dr sr ⟨Int.le_refl _, show (0 : Int) ≤ 15 by decide⟩) ?_, ?_⟩
  · have e : sizedF ⟨48, d, s, 0, 0, 0⟩ = true := by rw [sizedF, if_neg (by dsimp only; decide), if_neg (by dsimp only; decide), if_neg (by dsimp only; decide)]; rfl
    rw [e, none_any _ 1 _ (by dsimp only; decide), none_any _ 2 _ (by dsimp only; decide), none_zero _ 4, none_zero _ 8, none_zero _ 16]
    rfl
  · show 242 :: byteOf (rexN false d s) :: 15 :: 89 :: byteOf (twoN d s) :: [] = byteOf 242 :: byteOf (64 + 8 * 0 + 4 * (d / 8) + (s + 0) / 8) :: byteOf (15 + 0 + 0) :: byteOf (89 + 0 + 0) :: byteOf (64 * 3 + 8 * (d % 8) + (s + 0) % 8) :: []
    exact list2 (rfl) (list2 (congrArg byteOf (by simp only [rexN, if_true, if_false, Bool.false_eq_true]; omega)) (list2 (rfl) (list2 (rfl) (list2 (congrArg byteOf (by simp only [memN, twoN]; omega)) (rfl)))))
theorem form55 {d s c z n k : Int} (h : fitsF ⟨49, 0, 242, true, 0, [15, 92], 3, 0, 1, 2, 0, 0⟩ ⟨k, d, s, c, z, n⟩ = true) : validF ⟨k, d, s, c, z, n⟩ = true ∧ encF ⟨k, d, s, c, z, n⟩ = bytesF ⟨49, 0, 242, true, 0, [15, 92], 3, 0, 1, 2, 0, 0⟩ ⟨k, d, s, c, z, n⟩ := by
  simp only [fitsF, Bool.and_eq_true, decide_eq_true_eq] at h
  obtain ⟨⟨⟨⟨⟨hk, hz⟩, hd⟩, hs⟩, hc⟩, hn⟩ := h
  subst hk; subst hz
  have dr := field_range hd
  have sr := field_range hs
  obtain rfl := fld0 hc
  obtain rfl : n = 0 := of_decide_eq_true hn
  refine ⟨valid_mk (bad0_of rfl dr sr ⟨Int.le_refl _, show (0 : Int) ≤ 15 by decide⟩) ?_, ?_⟩
  · have e : sizedF ⟨49, d, s, 0, 0, 0⟩ = true := by rw [sizedF, if_neg (by dsimp only; decide), if_neg (by dsimp only; decide), if_neg (by dsimp only; decide)]; rfl
    rw [e, none_any _ 1 _ (by dsimp only; decide), none_any _ 2 _ (by dsimp only; decide), none_zero _ 4, none_zero _ 8, none_zero _ 16]
    rfl
  · show 242 :: byteOf (rexN false d s) :: 15 :: 92 :: byteOf (twoN d s) :: [] = byteOf 242 :: byteOf (64 + 8 * 0 + 4 * (d / 8) + (s + 0) / 8) :: byteOf (15 + 0 + 0) :: byteOf (92 + 0 + 0) :: byteOf (64 * 3 + 8 * (d % 8) + (s + 0) % 8) :: []
    exact list2 (rfl) (list2 (congrArg byteOf (by simp only [rexN, if_true, if_false, Bool.false_eq_true]; omega)) (list2 (rfl) (list2 (rfl) (list2 (congrArg byteOf (by simp only [memN, twoN]; omega)) (rfl)))))
theorem form56 {d s c z n k : Int} (h : fitsF ⟨50, 0, 242, true, 0, [15, 94], 3, 0, 1, 2, 0, 0⟩ ⟨k, d, s, c, z, n⟩ = true) : validF ⟨k, d, s, c, z, n⟩ = true ∧ encF ⟨k, d, s, c, z, n⟩ = bytesF ⟨50, 0, 242, true, 0, [15, 94], 3, 0, 1, 2, 0, 0⟩ ⟨k, d, s, c, z, n⟩ := by
  simp only [fitsF, Bool.and_eq_true, decide_eq_true_eq] at h
  obtain ⟨⟨⟨⟨⟨hk, hz⟩, hd⟩, hs⟩, hc⟩, hn⟩ := h
  subst hk; subst hz
  have dr := field_range hd
  have sr := field_range hs
  obtain rfl := fld0 hc
  obtain rfl : n = 0 := of_decide_eq_true hn
  refine ⟨valid_mk (bad0_of rfl dr sr ⟨Int.le_refl _, show (0 : Int) ≤ 15 by decide⟩) ?_, ?_⟩
  · have e : sizedF ⟨50, d, s, 0, 0, 0⟩ = true := by rw [sizedF, if_neg (by dsimp only; decide), if_neg (by dsimp only; decide), if_neg (by dsimp only; decide)]; rfl
    rw [e, none_any _ 1 _ (by dsimp only; decide), none_any _ 2 _ (by dsimp only; decide), none_zero _ 4, none_zero _ 8, none_zero _ 16]
    rfl
  · show 242 :: byteOf (rexN false d s) :: 15 :: 94 :: byteOf (twoN d s) :: [] = byteOf 242 :: byteOf (64 + 8 * 0 + 4 * (d / 8) + (s + 0) / 8) :: byteOf (15 + 0 + 0) :: byteOf (94 + 0 + 0) :: byteOf (64 * 3 + 8 * (d % 8) + (s + 0) % 8) :: []
    exact list2 (rfl) (list2 (congrArg byteOf (by simp only [rexN, if_true, if_false, Bool.false_eq_true]; omega)) (list2 (rfl) (list2 (rfl) (list2 (congrArg byteOf (by simp only [memN, twoN]; omega)) (rfl)))))
theorem form57 {d s c z n k : Int} (h : fitsF ⟨51, 0, 102, true, 0, [15, 46], 3, 0, 1, 2, 0, 0⟩ ⟨k, d, s, c, z, n⟩ = true) : validF ⟨k, d, s, c, z, n⟩ = true ∧ encF ⟨k, d, s, c, z, n⟩ = bytesF ⟨51, 0, 102, true, 0, [15, 46], 3, 0, 1, 2, 0, 0⟩ ⟨k, d, s, c, z, n⟩ := by
  simp only [fitsF, Bool.and_eq_true, decide_eq_true_eq] at h
  obtain ⟨⟨⟨⟨⟨hk, hz⟩, hd⟩, hs⟩, hc⟩, hn⟩ := h
  subst hk; subst hz
  have dr := field_range hd
  have sr := field_range hs
  obtain rfl := fld0 hc
  obtain rfl : n = 0 := of_decide_eq_true hn
  refine ⟨valid_mk (bad0_of rfl dr sr ⟨Int.le_refl _, show (0 : Int) ≤ 15 by decide⟩) ?_, ?_⟩
  · have e : sizedF ⟨51, d, s, 0, 0, 0⟩ = true := by rw [sizedF, if_neg (by dsimp only; decide), if_neg (by dsimp only; decide), if_neg (by dsimp only; decide)]; rfl
    rw [e, none_any _ 1 _ (by dsimp only; decide), none_any _ 2 _ (by dsimp only; decide), none_zero _ 4, none_zero _ 8, none_zero _ 16]
    rfl
  · show 102 :: byteOf (rexN false d s) :: 15 :: 46 :: byteOf (twoN d s) :: [] = byteOf 102 :: byteOf (64 + 8 * 0 + 4 * (d / 8) + (s + 0) / 8) :: byteOf (15 + 0 + 0) :: byteOf (46 + 0 + 0) :: byteOf (64 * 3 + 8 * (d % 8) + (s + 0) % 8) :: []
    exact list2 (rfl) (list2 (congrArg byteOf (by simp only [rexN, if_true, if_false, Bool.false_eq_true]; omega)) (list2 (rfl) (list2 (rfl) (list2 (congrArg byteOf (by simp only [memN, twoN]; omega)) (rfl)))))
theorem form58 {d s c z n k : Int} (h : fitsF ⟨52, 0, 242, true, 1, [15, 42], 3, 0, 1, 2, 0, 0⟩ ⟨k, d, s, c, z, n⟩ = true) : validF ⟨k, d, s, c, z, n⟩ = true ∧ encF ⟨k, d, s, c, z, n⟩ = bytesF ⟨52, 0, 242, true, 1, [15, 42], 3, 0, 1, 2, 0, 0⟩ ⟨k, d, s, c, z, n⟩ := by
  simp only [fitsF, Bool.and_eq_true, decide_eq_true_eq] at h
  obtain ⟨⟨⟨⟨⟨hk, hz⟩, hd⟩, hs⟩, hc⟩, hn⟩ := h
  subst hk; subst hz
  have dr := field_range hd
  have sr := field_range hs
  obtain rfl := fld0 hc
  obtain rfl : n = 0 := of_decide_eq_true hn
  refine ⟨valid_mk (bad0_of rfl dr sr ⟨Int.le_refl _, show (0 : Int) ≤ 15 by decide⟩) ?_, ?_⟩
  · have e : sizedF ⟨52, d, s, 0, 0, 0⟩ = true := by rw [sizedF, if_neg (by dsimp only; decide), if_neg (by dsimp only; decide), if_neg (by dsimp only; decide)]; rfl
    rw [e, none_any _ 1 _ (by dsimp only; decide), none_any _ 2 _ (by dsimp only; decide), none_zero _ 4, none_zero _ 8, none_zero _ 16]
    rfl
  · show 242 :: byteOf (rexN true d s) :: 15 :: 42 :: byteOf (twoN d s) :: [] = byteOf 242 :: byteOf (64 + 8 * 1 + 4 * (d / 8) + (s + 0) / 8) :: byteOf (15 + 0 + 0) :: byteOf (42 + 0 + 0) :: byteOf (64 * 3 + 8 * (d % 8) + (s + 0) % 8) :: []
    exact list2 (rfl) (list2 (congrArg byteOf (by simp only [rexN, if_true, if_false, Bool.false_eq_true]; omega)) (list2 (rfl) (list2 (rfl) (list2 (congrArg byteOf (by simp only [memN, twoN]; omega)) (rfl)))))
theorem forms_enc {f : FormF} (hf : f ∈ formsF) {i : Ins} (h : fitsF f i = true) : validF i = true ∧ encF i = bytesF f i := by
  obtain ⟨k, d, s, c, z, n⟩ := i
  simp only [formsF, List.mem_cons, List.not_mem_nil, or_false] at hf
  rcases hf with rfl | rfl | rfl | rfl | rfl | rfl | rfl | rfl | rfl | rfl | rfl | rfl | rfl | rfl | rfl | rfl | rfl | rfl | rfl | rfl | rfl | rfl | rfl | rfl | rfl | rfl | rfl | rfl | rfl | rfl | rfl | rfl | rfl | rfl | rfl | rfl | rfl | rfl | rfl | rfl | rfl | rfl | rfl | rfl | rfl | rfl | rfl | rfl | rfl | rfl | rfl | rfl | rfl | rfl | rfl | rfl | rfl | rfl | rfl
  · exact form0 h
  · exact form1 h
  · exact form2 h
  · exact form3 h
  · exact form4 h
  · exact form5 h
  · exact form6 h
  · exact form7 h
  · exact form8 h
  · exact form9 h
  · exact form10 h
  · exact form11 h
  · exact form12 h
  · exact form13 h
  · exact form14 h
  · exact form15 h
  · exact form16 h
  · exact form17 h
  · exact form18 h
  · exact form19 h
  · exact form20 h
  · exact form21 h
  · exact form22 h
  · exact form23 h
  · exact form24 h
  · exact form25 h
  · exact form26 h
  · exact form27 h
  · exact form28 h
  · exact form29 h
  · exact form30 h
  · exact form31 h
  · exact form32 h
  · exact form33 h
  · exact form34 h
  · exact form35 h
  · exact form36 h
  · exact form37 h
  · exact form38 h
  · exact form39 h
  · exact form40 h
  · exact form41 h
  · exact form42 h
  · exact form43 h
  · exact form44 h
  · exact form45 h
  · exact form46 h
  · exact form47 h
  · exact form48 h
  · exact form49 h
  · exact form50 h
  · exact form51 h
  · exact form52 h
  · exact form53 h
  · exact form54 h
  · exact form55 h
  · exact form56 h
  · exact form57 h
  · exact form58 h
end Go.Proofs.YtjndpakhmgapjaaDoor

namespace Go.Proofs.YtjndpakhmgapjaaDoor
open Go Go.RowKit
set_option linter.unusedSimpArgs false
set_option linter.unusedVariables false
set_option linter.unnecessarySimpa false
theorem valid_parts {i : Ins} (h : validF i = true) : ((1 ≤ i.kind ∧ i.kind ≤ 52) ∧ (0 ≤ i.d ∧ i.d ≤ 15) ∧ (0 ≤ i.s ∧ i.s ≤ 15) ∧ (0 ≤ i.cond ∧ i.cond ≤ 15)) ∧ noneF (fieldsF i.kind).1 1 i.d = true ∧ noneF (fieldsF i.kind).1 2 i.s = true ∧ noneF (fieldsF i.kind).1 4 i.imm = true ∧ noneF (fieldsF i.kind).1 8 i.cond = true ∧ noneF (fieldsF i.kind).1 16 i.size = true ∧ sizedF i = true := by
  refine ⟨validF_regs h, ?_⟩
  unfold validF at h
  split at h
  · cases h
  · simp only [Bool.and_eq_true] at h
    exact ⟨h.1.1.1.1.1, h.1.1.1.1.2, h.1.1.1.2, h.1.1.2, h.1.2, h.2⟩
theorem none_off {f b n : Int} (hb : bitsOf .and .i64 f b = 0) (h : noneF f b n = true) : n = 0 := by
  rw [noneF, decide_eq_true hb] at h
  simpa using h
theorem fld_some {p n : Int} (hp : ¬ p = 0) (h : 0 ≤ n ∧ n ≤ 15) : fieldR p n = true := by
  rw [fieldR, decide_eq_false hp, decide_eq_true h.1, decide_eq_true h.2]
  rfl
theorem fit_mk {f : FormF} {i : Ins} (h1 : f.kind = i.kind) (h2 : f.size = i.size) (h3 : fieldR f.d i.d = true) (h4 : fieldR f.s i.s = true) (h5 : fieldR f.cond i.cond = true) (h6 : numberR f i.imm = true) : fitsF f i = true := by
  rw [fitsF, decide_eq_true h1, decide_eq_true h2, h3, h4, h5, h6]
  rfl
theorem kind1 {d s c z n : Int} (h : validF ⟨1, d, s, c, z, n⟩ = true) : ∃ f ∈ formsF, fitsF f ⟨1, d, s, c, z, n⟩ = true := by
  obtain ⟨⟨_, hd, hs, hc⟩, h1, h2, h4, h8, h16, hz⟩ := valid_parts h
  obtain rfl : n = 0 := none_off (by dsimp only; decide) h4
  obtain rfl : c = 0 := none_off (by dsimp only; decide) h8
  obtain rfl : z = 0 := none_off (by dsimp only; decide) h16
  exact ⟨_, List.mem_of_getElem? (show formsF[0]? = some ⟨1, 0, 0, true, 1, [137], 3, 0, 2, 1, 0, 0⟩ from rfl), fit_mk rfl rfl (fld_some (by decide) hd) (fld_some (by decide) hs) rfl (rfl)⟩
theorem kind2 {d s c z n : Int} (h : validF ⟨2, d, s, c, z, n⟩ = true) : ∃ f ∈ formsF, fitsF f ⟨2, d, s, c, z, n⟩ = true := by
  obtain ⟨⟨_, hd, hs, hc⟩, h1, h2, h4, h8, h16, hz⟩ := valid_parts h
  obtain rfl : s = 0 := none_off (by dsimp only; decide) h2
  obtain rfl : c = 0 := none_off (by dsimp only; decide) h8
  obtain rfl : z = 0 := none_off (by dsimp only; decide) h16
  by_cases hn : smallF n = true
  · exact ⟨_, List.mem_of_getElem? (show formsF[1]? = some ⟨2, 0, 0, true, 1, [199], 3, 0, 2, 0, 0, 6⟩ from rfl), fit_mk rfl rfl (fld_some (by decide) hd) rfl rfl (hn)⟩
  · exact ⟨_, List.mem_of_getElem? (show formsF[2]? = some ⟨2, 0, 0, true, 1, [184], -1, 0, 3, 0, 0, 7⟩ from rfl), fit_mk rfl rfl (fld_some (by decide) hd) rfl rfl ((show (!smallF n) = true by simpa using hn))⟩
theorem kind3 {d s c z n : Int} (h : validF ⟨3, d, s, c, z, n⟩ = true) : ∃ f ∈ formsF, fitsF f ⟨3, d, s, c, z, n⟩ = true := by
  obtain ⟨⟨_, hd, hs, hc⟩, h1, h2, h4, h8, h16, hz⟩ := valid_parts h
  obtain rfl : c = 0 := none_off (by dsimp only; decide) h8
  rw [sizedF, if_pos (by dsimp only; decide), Bool.and_eq_true, Bool.or_eq_true, Bool.or_eq_true] at hz
  obtain ⟨hz, hn⟩ := hz
  rcases hz with (hz | hz) | hz
  · obtain rfl := of_decide_eq_true hz
    exact ⟨_, List.mem_of_getElem? (show formsF[3]? = some ⟨3, 8, 0, true, 1, [139], 2, 0, 1, 2, 0, 6⟩ from rfl), fit_mk rfl rfl (fld_some (by decide) hd) (fld_some (by decide) hs) rfl (hn)⟩
  · obtain rfl := of_decide_eq_true hz
    exact ⟨_, List.mem_of_getElem? (show formsF[4]? = some ⟨3, 4, 0, true, 0, [139], 2, 0, 1, 2, 0, 6⟩ from rfl), fit_mk rfl rfl (fld_some (by decide) hd) (fld_some (by decide) hs) rfl (hn)⟩
  · obtain rfl := of_decide_eq_true hz
    exact ⟨_, List.mem_of_getElem? (show formsF[5]? = some ⟨3, 1, 0, true, 1, [15, 182], 2, 0, 1, 2, 0, 6⟩ from rfl), fit_mk rfl rfl (fld_some (by decide) hd) (fld_some (by decide) hs) rfl (hn)⟩
theorem kind4 {d s c z n : Int} (h : validF ⟨4, d, s, c, z, n⟩ = true) : ∃ f ∈ formsF, fitsF f ⟨4, d, s, c, z, n⟩ = true := by
  obtain ⟨⟨_, hd, hs, hc⟩, h1, h2, h4, h8, h16, hz⟩ := valid_parts h
  obtain rfl : c = 0 := none_off (by dsimp only; decide) h8
  rw [sizedF, if_pos (by dsimp only; decide), Bool.and_eq_true, Bool.or_eq_true, Bool.or_eq_true] at hz
  obtain ⟨hz, hn⟩ := hz
  rcases hz with (hz | hz) | hz
  · obtain rfl := of_decide_eq_true hz
    exact ⟨_, List.mem_of_getElem? (show formsF[6]? = some ⟨4, 8, 0, true, 1, [137], 2, 0, 2, 1, 0, 6⟩ from rfl), fit_mk rfl rfl (fld_some (by decide) hd) (fld_some (by decide) hs) rfl (hn)⟩
  · obtain rfl := of_decide_eq_true hz
    exact ⟨_, List.mem_of_getElem? (show formsF[7]? = some ⟨4, 4, 0, true, 0, [137], 2, 0, 2, 1, 0, 6⟩ from rfl), fit_mk rfl rfl (fld_some (by decide) hd) (fld_some (by decide) hs) rfl (hn)⟩
  · obtain rfl := of_decide_eq_true hz
    exact ⟨_, List.mem_of_getElem? (show formsF[8]? = some ⟨4, 1, 0, true, 0, [136], 2, 0, 2, 1, 0, 6⟩ from rfl), fit_mk rfl rfl (fld_some (by decide) hd) (fld_some (by decide) hs) rfl (hn)⟩
theorem kind5 {d s c z n : Int} (h : validF ⟨5, d, s, c, z, n⟩ = true) : ∃ f ∈ formsF, fitsF f ⟨5, d, s, c, z, n⟩ = true := by
  obtain ⟨⟨_, hd, hs, hc⟩, h1, h2, h4, h8, h16, hz⟩ := valid_parts h
  obtain rfl : c = 0 := none_off (by dsimp only; decide) h8
  obtain rfl : z = 0 := none_off (by dsimp only; decide) h16
  rw [sizedF, if_neg (by dsimp only; decide), if_neg (by dsimp only; decide), if_neg (by dsimp only; decide)] at hz
  have hn : smallF n = true := hz
  exact ⟨_, List.mem_of_getElem? (show formsF[9]? = some ⟨5, 0, 0, true, 1, [141], 2, 0, 1, 2, 0, 6⟩ from rfl), fit_mk rfl rfl (fld_some (by decide) hd) (fld_some (by decide) hs) rfl (hn)⟩
theorem kind6 {d s c z n : Int} (h : validF ⟨6, d, s, c, z, n⟩ = true) : ∃ f ∈ formsF, fitsF f ⟨6, d, s, c, z, n⟩ = true := by
  obtain ⟨⟨_, hd, hs, hc⟩, h1, h2, h4, h8, h16, hz⟩ := valid_parts h
  obtain rfl : n = 0 := none_off (by dsimp only; decide) h4
  obtain rfl : c = 0 := none_off (by dsimp only; decide) h8
  obtain rfl : z = 0 := none_off (by dsimp only; decide) h16
  exact ⟨_, List.mem_of_getElem? (show formsF[10]? = some ⟨6, 0, 0, true, 1, [1], 3, 0, 2, 1, 0, 0⟩ from rfl), fit_mk rfl rfl (fld_some (by decide) hd) (fld_some (by decide) hs) rfl (rfl)⟩
theorem kind7 {d s c z n : Int} (h : validF ⟨7, d, s, c, z, n⟩ = true) : ∃ f ∈ formsF, fitsF f ⟨7, d, s, c, z, n⟩ = true := by
  obtain ⟨⟨_, hd, hs, hc⟩, h1, h2, h4, h8, h16, hz⟩ := valid_parts h
  obtain rfl : n = 0 := none_off (by dsimp only; decide) h4
  obtain rfl : c = 0 := none_off (by dsimp only; decide) h8
  obtain rfl : z = 0 := none_off (by dsimp only; decide) h16
  exact ⟨_, List.mem_of_getElem? (show formsF[11]? = some ⟨7, 0, 0, true, 1, [9], 3, 0, 2, 1, 0, 0⟩ from rfl), fit_mk rfl rfl (fld_some (by decide) hd) (fld_some (by decide) hs) rfl (rfl)⟩
theorem kind8 {d s c z n : Int} (h : validF ⟨8, d, s, c, z, n⟩ = true) : ∃ f ∈ formsF, fitsF f ⟨8, d, s, c, z, n⟩ = true := by
  obtain ⟨⟨_, hd, hs, hc⟩, h1, h2, h4, h8, h16, hz⟩ := valid_parts h
  obtain rfl : n = 0 := none_off (by dsimp only; decide) h4
  obtain rfl : c = 0 := none_off (by dsimp only; decide) h8
  obtain rfl : z = 0 := none_off (by dsimp only; decide) h16
  exact ⟨_, List.mem_of_getElem? (show formsF[12]? = some ⟨8, 0, 0, true, 1, [17], 3, 0, 2, 1, 0, 0⟩ from rfl), fit_mk rfl rfl (fld_some (by decide) hd) (fld_some (by decide) hs) rfl (rfl)⟩
theorem kind9 {d s c z n : Int} (h : validF ⟨9, d, s, c, z, n⟩ = true) : ∃ f ∈ formsF, fitsF f ⟨9, d, s, c, z, n⟩ = true := by
  obtain ⟨⟨_, hd, hs, hc⟩, h1, h2, h4, h8, h16, hz⟩ := valid_parts h
  obtain rfl : n = 0 := none_off (by dsimp only; decide) h4
  obtain rfl : c = 0 := none_off (by dsimp only; decide) h8
  obtain rfl : z = 0 := none_off (by dsimp only; decide) h16
  exact ⟨_, List.mem_of_getElem? (show formsF[13]? = some ⟨9, 0, 0, true, 1, [25], 3, 0, 2, 1, 0, 0⟩ from rfl), fit_mk rfl rfl (fld_some (by decide) hd) (fld_some (by decide) hs) rfl (rfl)⟩
theorem kind10 {d s c z n : Int} (h : validF ⟨10, d, s, c, z, n⟩ = true) : ∃ f ∈ formsF, fitsF f ⟨10, d, s, c, z, n⟩ = true := by
  obtain ⟨⟨_, hd, hs, hc⟩, h1, h2, h4, h8, h16, hz⟩ := valid_parts h
  obtain rfl : n = 0 := none_off (by dsimp only; decide) h4
  obtain rfl : c = 0 := none_off (by dsimp only; decide) h8
  obtain rfl : z = 0 := none_off (by dsimp only; decide) h16
  exact ⟨_, List.mem_of_getElem? (show formsF[14]? = some ⟨10, 0, 0, true, 1, [33], 3, 0, 2, 1, 0, 0⟩ from rfl), fit_mk rfl rfl (fld_some (by decide) hd) (fld_some (by decide) hs) rfl (rfl)⟩
theorem kind11 {d s c z n : Int} (h : validF ⟨11, d, s, c, z, n⟩ = true) : ∃ f ∈ formsF, fitsF f ⟨11, d, s, c, z, n⟩ = true := by
  obtain ⟨⟨_, hd, hs, hc⟩, h1, h2, h4, h8, h16, hz⟩ := valid_parts h
  obtain rfl : n = 0 := none_off (by dsimp only; decide) h4
  obtain rfl : c = 0 := none_off (by dsimp only; decide) h8
  obtain rfl : z = 0 := none_off (by dsimp only; decide) h16
  exact ⟨_, List.mem_of_getElem? (show formsF[15]? = some ⟨11, 0, 0, true, 1, [41], 3, 0, 2, 1, 0, 0⟩ from rfl), fit_mk rfl rfl (fld_some (by decide) hd) (fld_some (by decide) hs) rfl (rfl)⟩
theorem kind12 {d s c z n : Int} (h : validF ⟨12, d, s, c, z, n⟩ = true) : ∃ f ∈ formsF, fitsF f ⟨12, d, s, c, z, n⟩ = true := by
  obtain ⟨⟨_, hd, hs, hc⟩, h1, h2, h4, h8, h16, hz⟩ := valid_parts h
  obtain rfl : n = 0 := none_off (by dsimp only; decide) h4
  obtain rfl : c = 0 := none_off (by dsimp only; decide) h8
  obtain rfl : z = 0 := none_off (by dsimp only; decide) h16
  exact ⟨_, List.mem_of_getElem? (show formsF[16]? = some ⟨12, 0, 0, true, 1, [49], 3, 0, 2, 1, 0, 0⟩ from rfl), fit_mk rfl rfl (fld_some (by decide) hd) (fld_some (by decide) hs) rfl (rfl)⟩
theorem kind13 {d s c z n : Int} (h : validF ⟨13, d, s, c, z, n⟩ = true) : ∃ f ∈ formsF, fitsF f ⟨13, d, s, c, z, n⟩ = true := by
  obtain ⟨⟨_, hd, hs, hc⟩, h1, h2, h4, h8, h16, hz⟩ := valid_parts h
  obtain rfl : n = 0 := none_off (by dsimp only; decide) h4
  obtain rfl : c = 0 := none_off (by dsimp only; decide) h8
  obtain rfl : z = 0 := none_off (by dsimp only; decide) h16
  exact ⟨_, List.mem_of_getElem? (show formsF[17]? = some ⟨13, 0, 0, true, 1, [57], 3, 0, 2, 1, 0, 0⟩ from rfl), fit_mk rfl rfl (fld_some (by decide) hd) (fld_some (by decide) hs) rfl (rfl)⟩
theorem kind14 {d s c z n : Int} (h : validF ⟨14, d, s, c, z, n⟩ = true) : ∃ f ∈ formsF, fitsF f ⟨14, d, s, c, z, n⟩ = true := by
  obtain ⟨⟨_, hd, hs, hc⟩, h1, h2, h4, h8, h16, hz⟩ := valid_parts h
  obtain rfl : n = 0 := none_off (by dsimp only; decide) h4
  obtain rfl : c = 0 := none_off (by dsimp only; decide) h8
  obtain rfl : z = 0 := none_off (by dsimp only; decide) h16
  exact ⟨_, List.mem_of_getElem? (show formsF[18]? = some ⟨14, 0, 0, true, 1, [133], 3, 0, 2, 1, 0, 0⟩ from rfl), fit_mk rfl rfl (fld_some (by decide) hd) (fld_some (by decide) hs) rfl (rfl)⟩
theorem kind15 {d s c z n : Int} (h : validF ⟨15, d, s, c, z, n⟩ = true) : ∃ f ∈ formsF, fitsF f ⟨15, d, s, c, z, n⟩ = true := by
  obtain ⟨⟨_, hd, hs, hc⟩, h1, h2, h4, h8, h16, hz⟩ := valid_parts h
  obtain rfl : s = 0 := none_off (by dsimp only; decide) h2
  obtain rfl : c = 0 := none_off (by dsimp only; decide) h8
  obtain rfl : z = 0 := none_off (by dsimp only; decide) h16
  rw [sizedF, if_neg (by dsimp only; decide), if_neg (by dsimp only; decide), if_neg (by dsimp only; decide)] at hz
  have hn : smallF n = true := hz
  exact ⟨_, List.mem_of_getElem? (show formsF[19]? = some ⟨15, 0, 0, true, 1, [129], 3, 0, 2, 0, 0, 6⟩ from rfl), fit_mk rfl rfl (fld_some (by decide) hd) rfl rfl (hn)⟩
theorem kind16 {d s c z n : Int} (h : validF ⟨16, d, s, c, z, n⟩ = true) : ∃ f ∈ formsF, fitsF f ⟨16, d, s, c, z, n⟩ = true := by
  obtain ⟨⟨_, hd, hs, hc⟩, h1, h2, h4, h8, h16, hz⟩ := valid_parts h
  obtain rfl : s = 0 := none_off (by dsimp only; decide) h2
  obtain rfl : c = 0 := none_off (by dsimp only; decide) h8
  obtain rfl : z = 0 := none_off (by dsimp only; decide) h16
  rw [sizedF, if_neg (by dsimp only; decide), if_neg (by dsimp only; decide), if_neg (by dsimp only; decide)] at hz
  have hn : smallF n = true := hz
  exact ⟨_, List.mem_of_getElem? (show formsF[20]? = some ⟨16, 0, 0, true, 1, [129], 3, 1, 2, 0, 0, 6⟩ from rfl), fit_mk rfl rfl (fld_some (by decide) hd) rfl rfl (hn)⟩
theorem kind17 {d s c z n : Int} (h : validF ⟨17, d, s, c, z, n⟩ = true) : ∃ f ∈ formsF, fitsF f ⟨17, d, s, c, z, n⟩ = true := by
  obtain ⟨⟨_, hd, hs, hc⟩, h1, h2, h4, h8, h16, hz⟩ := valid_parts h
  obtain rfl : s = 0 := none_off (by dsimp only; decide) h2
  obtain rfl : c = 0 := none_off (by dsimp only; decide) h8
  obtain rfl : z = 0 := none_off (by dsimp only; decide) h16
  rw [sizedF, if_neg (by dsimp only; decide), if_neg (by dsimp only; decide), if_neg (by dsimp only; decide)] at hz
  have hn : smallF n = true := hz
  exact ⟨_, List.mem_of_getElem? (show formsF[21]? = some ⟨17, 0, 0, true, 1, [129], 3, 4, 2, 0, 0, 6⟩ from rfl), fit_mk rfl rfl (fld_some (by decide) hd) rfl rfl (hn)⟩
theorem kind18 {d s c z n : Int} (h : validF ⟨18, d, s, c, z, n⟩ = true) : ∃ f ∈ formsF, fitsF f ⟨18, d, s, c, z, n⟩ = true := by
  obtain ⟨⟨_, hd, hs, hc⟩, h1, h2, h4, h8, h16, hz⟩ := valid_parts h
  obtain rfl : s = 0 := none_off (by dsimp only; decide) h2
  obtain rfl : c = 0 := none_off (by dsimp only; decide) h8
  obtain rfl : z = 0 := none_off (by dsimp only; decide) h16
  rw [sizedF, if_neg (by dsimp only; decide), if_neg (by dsimp only; decide), if_neg (by dsimp only; decide)] at hz
  have hn : smallF n = true := hz
  exact ⟨_, List.mem_of_getElem? (show formsF[22]? = some ⟨18, 0, 0, true, 1, [129], 3, 5, 2, 0, 0, 6⟩ from rfl), fit_mk rfl rfl (fld_some (by decide) hd) rfl rfl (hn)⟩
theorem kind19 {d s c z n : Int} (h : validF ⟨19, d, s, c, z, n⟩ = true) : ∃ f ∈ formsF, fitsF f ⟨19, d, s, c, z, n⟩ = true := by
  obtain ⟨⟨_, hd, hs, hc⟩, h1, h2, h4, h8, h16, hz⟩ := valid_parts h
  obtain rfl : s = 0 := none_off (by dsimp only; decide) h2
  obtain rfl : c = 0 := none_off (by dsimp only; decide) h8
  obtain rfl : z = 0 := none_off (by dsimp only; decide) h16
  rw [sizedF, if_neg (by dsimp only; decide), if_neg (by dsimp only; decide), if_neg (by dsimp only; decide)] at hz
  have hn : smallF n = true := hz
  exact ⟨_, List.mem_of_getElem? (show formsF[23]? = some ⟨19, 0, 0, true, 1, [129], 3, 6, 2, 0, 0, 6⟩ from rfl), fit_mk rfl rfl (fld_some (by decide) hd) rfl rfl (hn)⟩
theorem kind20 {d s c z n : Int} (h : validF ⟨20, d, s, c, z, n⟩ = true) : ∃ f ∈ formsF, fitsF f ⟨20, d, s, c, z, n⟩ = true := by
  obtain ⟨⟨_, hd, hs, hc⟩, h1, h2, h4, h8, h16, hz⟩ := valid_parts h
  obtain rfl : s = 0 := none_off (by dsimp only; decide) h2
  obtain rfl : c = 0 := none_off (by dsimp only; decide) h8
  obtain rfl : z = 0 := none_off (by dsimp only; decide) h16
  rw [sizedF, if_neg (by dsimp only; decide), if_neg (by dsimp only; decide), if_neg (by dsimp only; decide)] at hz
  have hn : smallF n = true := hz
  exact ⟨_, List.mem_of_getElem? (show formsF[24]? = some ⟨20, 0, 0, true, 1, [129], 3, 7, 2, 0, 0, 6⟩ from rfl), fit_mk rfl rfl (fld_some (by decide) hd) rfl rfl (hn)⟩
theorem kind21 {d s c z n : Int} (h : validF ⟨21, d, s, c, z, n⟩ = true) : ∃ f ∈ formsF, fitsF f ⟨21, d, s, c, z, n⟩ = true := by
  obtain ⟨⟨_, hd, hs, hc⟩, h1, h2, h4, h8, h16, hz⟩ := valid_parts h
  obtain rfl : n = 0 := none_off (by dsimp only; decide) h4
  obtain rfl : c = 0 := none_off (by dsimp only; decide) h8
  obtain rfl : z = 0 := none_off (by dsimp only; decide) h16
  exact ⟨_, List.mem_of_getElem? (show formsF[25]? = some ⟨21, 0, 0, true, 1, [15, 175], 3, 0, 1, 2, 0, 0⟩ from rfl), fit_mk rfl rfl (fld_some (by decide) hd) (fld_some (by decide) hs) rfl (rfl)⟩
theorem kind22 {d s c z n : Int} (h : validF ⟨22, d, s, c, z, n⟩ = true) : ∃ f ∈ formsF, fitsF f ⟨22, d, s, c, z, n⟩ = true := by
  obtain ⟨⟨_, hd, hs, hc⟩, h1, h2, h4, h8, h16, hz⟩ := valid_parts h
  obtain rfl : s = 0 := none_off (by dsimp only; decide) h2
  obtain rfl : n = 0 := none_off (by dsimp only; decide) h4
  obtain rfl : c = 0 := none_off (by dsimp only; decide) h8
  obtain rfl : z = 0 := none_off (by dsimp only; decide) h16
  exact ⟨_, List.mem_of_getElem? (show formsF[26]? = some ⟨22, 0, 0, true, 1, [247], 3, 4, 2, 0, 0, 0⟩ from rfl), fit_mk rfl rfl (fld_some (by decide) hd) rfl rfl (rfl)⟩
theorem kind23 {d s c z n : Int} (h : validF ⟨23, d, s, c, z, n⟩ = true) : ∃ f ∈ formsF, fitsF f ⟨23, d, s, c, z, n⟩ = true := by
  obtain ⟨⟨_, hd, hs, hc⟩, h1, h2, h4, h8, h16, hz⟩ := valid_parts h
  obtain rfl : s = 0 := none_off (by dsimp only; decide) h2
  obtain rfl : n = 0 := none_off (by dsimp only; decide) h4
  obtain rfl : c = 0 := none_off (by dsimp only; decide) h8
  obtain rfl : z = 0 := none_off (by dsimp only; decide) h16
  exact ⟨_, List.mem_of_getElem? (show formsF[27]? = some ⟨23, 0, 0, true, 1, [247], 3, 6, 2, 0, 0, 0⟩ from rfl), fit_mk rfl rfl (fld_some (by decide) hd) rfl rfl (rfl)⟩
theorem kind24 {d s c z n : Int} (h : validF ⟨24, d, s, c, z, n⟩ = true) : ∃ f ∈ formsF, fitsF f ⟨24, d, s, c, z, n⟩ = true := by
  obtain ⟨⟨_, hd, hs, hc⟩, h1, h2, h4, h8, h16, hz⟩ := valid_parts h
  obtain rfl : s = 0 := none_off (by dsimp only; decide) h2
  obtain rfl : n = 0 := none_off (by dsimp only; decide) h4
  obtain rfl : c = 0 := none_off (by dsimp only; decide) h8
  obtain rfl : z = 0 := none_off (by dsimp only; decide) h16
  exact ⟨_, List.mem_of_getElem? (show formsF[28]? = some ⟨24, 0, 0, true, 1, [247], 3, 3, 2, 0, 0, 0⟩ from rfl), fit_mk rfl rfl (fld_some (by decide) hd) rfl rfl (rfl)⟩
theorem kind25 {d s c z n : Int} (h : validF ⟨25, d, s, c, z, n⟩ = true) : ∃ f ∈ formsF, fitsF f ⟨25, d, s, c, z, n⟩ = true := by
  obtain ⟨⟨_, hd, hs, hc⟩, h1, h2, h4, h8, h16, hz⟩ := valid_parts h
  obtain rfl : s = 0 := none_off (by dsimp only; decide) h2
  obtain rfl : n = 0 := none_off (by dsimp only; decide) h4
  obtain rfl : c = 0 := none_off (by dsimp only; decide) h8
  obtain rfl : z = 0 := none_off (by dsimp only; decide) h16
  exact ⟨_, List.mem_of_getElem? (show formsF[29]? = some ⟨25, 0, 0, true, 1, [247], 3, 2, 2, 0, 0, 0⟩ from rfl), fit_mk rfl rfl (fld_some (by decide) hd) rfl rfl (rfl)⟩
theorem kind26 {d s c z n : Int} (h : validF ⟨26, d, s, c, z, n⟩ = true) : ∃ f ∈ formsF, fitsF f ⟨26, d, s, c, z, n⟩ = true := by
  obtain ⟨⟨_, hd, hs, hc⟩, h1, h2, h4, h8, h16, hz⟩ := valid_parts h
  obtain rfl : s = 0 := none_off (by dsimp only; decide) h2
  obtain rfl : n = 0 := none_off (by dsimp only; decide) h4
  obtain rfl : c = 0 := none_off (by dsimp only; decide) h8
  obtain rfl : z = 0 := none_off (by dsimp only; decide) h16
  exact ⟨_, List.mem_of_getElem? (show formsF[30]? = some ⟨26, 0, 0, true, 1, [211], 3, 4, 2, 0, 0, 0⟩ from rfl), fit_mk rfl rfl (fld_some (by decide) hd) rfl rfl (rfl)⟩
theorem kind27 {d s c z n : Int} (h : validF ⟨27, d, s, c, z, n⟩ = true) : ∃ f ∈ formsF, fitsF f ⟨27, d, s, c, z, n⟩ = true := by
  obtain ⟨⟨_, hd, hs, hc⟩, h1, h2, h4, h8, h16, hz⟩ := valid_parts h
  obtain rfl : s = 0 := none_off (by dsimp only; decide) h2
  obtain rfl : n = 0 := none_off (by dsimp only; decide) h4
  obtain rfl : c = 0 := none_off (by dsimp only; decide) h8
  obtain rfl : z = 0 := none_off (by dsimp only; decide) h16
  exact ⟨_, List.mem_of_getElem? (show formsF[31]? = some ⟨27, 0, 0, true, 1, [211], 3, 5, 2, 0, 0, 0⟩ from rfl), fit_mk rfl rfl (fld_some (by decide) hd) rfl rfl (rfl)⟩
theorem kind28 {d s c z n : Int} (h : validF ⟨28, d, s, c, z, n⟩ = true) : ∃ f ∈ formsF, fitsF f ⟨28, d, s, c, z, n⟩ = true := by
  obtain ⟨⟨_, hd, hs, hc⟩, h1, h2, h4, h8, h16, hz⟩ := valid_parts h
  obtain rfl : s = 0 := none_off (by dsimp only; decide) h2
  obtain rfl : n = 0 := none_off (by dsimp only; decide) h4
  obtain rfl : c = 0 := none_off (by dsimp only; decide) h8
  obtain rfl : z = 0 := none_off (by dsimp only; decide) h16
  exact ⟨_, List.mem_of_getElem? (show formsF[32]? = some ⟨28, 0, 0, true, 1, [211], 3, 7, 2, 0, 0, 0⟩ from rfl), fit_mk rfl rfl (fld_some (by decide) hd) rfl rfl (rfl)⟩
theorem kind29 {d s c z n : Int} (h : validF ⟨29, d, s, c, z, n⟩ = true) : ∃ f ∈ formsF, fitsF f ⟨29, d, s, c, z, n⟩ = true := by
  obtain ⟨⟨_, hd, hs, hc⟩, h1, h2, h4, h8, h16, hz⟩ := valid_parts h
  obtain rfl : s = 0 := none_off (by dsimp only; decide) h2
  obtain rfl : c = 0 := none_off (by dsimp only; decide) h8
  obtain rfl : z = 0 := none_off (by dsimp only; decide) h16
  rw [sizedF, if_neg (by dsimp only; decide), if_neg (by dsimp only; decide), if_pos (by dsimp only; decide)] at hz
  exact ⟨_, List.mem_of_getElem? (show formsF[33]? = some ⟨29, 0, 0, true, 1, [193], 3, 4, 2, 0, 0, 5⟩ from rfl), fit_mk rfl rfl (fld_some (by decide) hd) rfl rfl (hz)⟩
theorem kind30 {d s c z n : Int} (h : validF ⟨30, d, s, c, z, n⟩ = true) : ∃ f ∈ formsF, fitsF f ⟨30, d, s, c, z, n⟩ = true := by
  obtain ⟨⟨_, hd, hs, hc⟩, h1, h2, h4, h8, h16, hz⟩ := valid_parts h
  obtain rfl : s = 0 := none_off (by dsimp only; decide) h2
  obtain rfl : c = 0 := none_off (by dsimp only; decide) h8
  obtain rfl : z = 0 := none_off (by dsimp only; decide) h16
  rw [sizedF, if_neg (by dsimp only; decide), if_neg (by dsimp only; decide), if_pos (by dsimp only; decide)] at hz
  exact ⟨_, List.mem_of_getElem? (show formsF[34]? = some ⟨30, 0, 0, true, 1, [193], 3, 5, 2, 0, 0, 5⟩ from rfl), fit_mk rfl rfl (fld_some (by decide) hd) rfl rfl (hz)⟩
theorem kind31 {d s c z n : Int} (h : validF ⟨31, d, s, c, z, n⟩ = true) : ∃ f ∈ formsF, fitsF f ⟨31, d, s, c, z, n⟩ = true := by
  obtain ⟨⟨_, hd, hs, hc⟩, h1, h2, h4, h8, h16, hz⟩ := valid_parts h
  obtain rfl : s = 0 := none_off (by dsimp only; decide) h2
  obtain rfl : c = 0 := none_off (by dsimp only; decide) h8
  obtain rfl : z = 0 := none_off (by dsimp only; decide) h16
  rw [sizedF, if_neg (by dsimp only; decide), if_neg (by dsimp only; decide), if_pos (by dsimp only; decide)] at hz
  exact ⟨_, List.mem_of_getElem? (show formsF[35]? = some ⟨31, 0, 0, true, 1, [193], 3, 7, 2, 0, 0, 5⟩ from rfl), fit_mk rfl rfl (fld_some (by decide) hd) rfl rfl (hz)⟩
theorem kind32 {d s c z n : Int} (h : validF ⟨32, d, s, c, z, n⟩ = true) : ∃ f ∈ formsF, fitsF f ⟨32, d, s, c, z, n⟩ = true := by
  obtain ⟨⟨_, hd, hs, hc⟩, h1, h2, h4, h8, h16, hz⟩ := valid_parts h
  obtain rfl : s = 0 := none_off (by dsimp only; decide) h2
  obtain rfl : n = 0 := none_off (by dsimp only; decide) h4
  obtain rfl : z = 0 := none_off (by dsimp only; decide) h16
  exact ⟨_, List.mem_of_getElem? (show formsF[36]? = some ⟨32, 0, 0, true, 0, [15, 144], 3, 0, 2, 0, 4, 0⟩ from rfl), fit_mk rfl rfl (fld_some (by decide) hd) rfl (fld_some (by decide) hc) (rfl)⟩
theorem kind33 {d s c z n : Int} (h : validF ⟨33, d, s, c, z, n⟩ = true) : ∃ f ∈ formsF, fitsF f ⟨33, d, s, c, z, n⟩ = true := by
  obtain ⟨⟨_, hd, hs, hc⟩, h1, h2, h4, h8, h16, hz⟩ := valid_parts h
  obtain rfl : n = 0 := none_off (by dsimp only; decide) h4
  obtain rfl : c = 0 := none_off (by dsimp only; decide) h8
  obtain rfl : z = 0 := none_off (by dsimp only; decide) h16
  exact ⟨_, List.mem_of_getElem? (show formsF[37]? = some ⟨33, 0, 0, true, 1, [15, 182], 3, 0, 1, 2, 0, 0⟩ from rfl), fit_mk rfl rfl (fld_some (by decide) hd) (fld_some (by decide) hs) rfl (rfl)⟩
theorem kind34 {d s c z n : Int} (h : validF ⟨34, d, s, c, z, n⟩ = true) : ∃ f ∈ formsF, fitsF f ⟨34, d, s, c, z, n⟩ = true := by
  obtain ⟨⟨_, hd, hs, hc⟩, h1, h2, h4, h8, h16, hz⟩ := valid_parts h
  obtain rfl : n = 0 := none_off (by dsimp only; decide) h4
  obtain rfl : z = 0 := none_off (by dsimp only; decide) h16
  exact ⟨_, List.mem_of_getElem? (show formsF[38]? = some ⟨34, 0, 0, true, 1, [15, 64], 3, 0, 1, 2, 4, 0⟩ from rfl), fit_mk rfl rfl (fld_some (by decide) hd) (fld_some (by decide) hs) (fld_some (by decide) hc) (rfl)⟩
theorem kind35 {d s c z n : Int} (h : validF ⟨35, d, s, c, z, n⟩ = true) : ∃ f ∈ formsF, fitsF f ⟨35, d, s, c, z, n⟩ = true := by
  obtain ⟨⟨_, hd, hs, hc⟩, h1, h2, h4, h8, h16, hz⟩ := valid_parts h
  obtain rfl : d = 0 := none_off (by dsimp only; decide) h1
  obtain rfl : s = 0 := none_off (by dsimp only; decide) h2
  obtain rfl : c = 0 := none_off (by dsimp only; decide) h8
  rw [sizedF, if_neg (by dsimp only; decide), if_pos (by dsimp only; decide), Bool.or_eq_true, Bool.and_eq_true, Bool.and_eq_true] at hz
  rcases hz with ⟨hz, hn⟩ | ⟨hz, hn⟩
  · obtain rfl := of_decide_eq_true hz
    exact ⟨_, List.mem_of_getElem? (show formsF[40]? = some ⟨35, 4, 0, false, 0, [233], -1, 0, 0, 0, 0, 6⟩ from rfl), fit_mk rfl rfl rfl rfl rfl (hn)⟩
  · obtain rfl := of_decide_eq_true hz
    exact ⟨_, List.mem_of_getElem? (show formsF[39]? = some ⟨35, 1, 0, false, 0, [235], -1, 0, 0, 0, 0, 5⟩ from rfl), fit_mk rfl rfl rfl rfl rfl (hn)⟩
theorem kind36 {d s c z n : Int} (h : validF ⟨36, d, s, c, z, n⟩ = true) : ∃ f ∈ formsF, fitsF f ⟨36, d, s, c, z, n⟩ = true := by
  obtain ⟨⟨_, hd, hs, hc⟩, h1, h2, h4, h8, h16, hz⟩ := valid_parts h
  obtain rfl : d = 0 := none_off (by dsimp only; decide) h1
  obtain rfl : s = 0 := none_off (by dsimp only; decide) h2
  rw [sizedF, if_neg (by dsimp only; decide), if_pos (by dsimp only; decide), Bool.or_eq_true, Bool.and_eq_true, Bool.and_eq_true] at hz
  rcases hz with ⟨hz, hn⟩ | ⟨hz, hn⟩
  · obtain rfl := of_decide_eq_true hz
    exact ⟨_, List.mem_of_getElem? (show formsF[42]? = some ⟨36, 4, 0, false, 0, [15, 128], -1, 0, 0, 0, 4, 6⟩ from rfl), fit_mk rfl rfl rfl rfl (fld_some (by decide) hc) (hn)⟩
  · obtain rfl := of_decide_eq_true hz
    exact ⟨_, List.mem_of_getElem? (show formsF[41]? = some ⟨36, 1, 0, false, 0, [112], -1, 0, 0, 0, 4, 5⟩ from rfl), fit_mk rfl rfl rfl rfl (fld_some (by decide) hc) (hn)⟩
theorem kind37 {d s c z n : Int} (h : validF ⟨37, d, s, c, z, n⟩ = true) : ∃ f ∈ formsF, fitsF f ⟨37, d, s, c, z, n⟩ = true := by
  obtain ⟨⟨_, hd, hs, hc⟩, h1, h2, h4, h8, h16, hz⟩ := valid_parts h
  obtain rfl : d = 0 := none_off (by dsimp only; decide) h1
  obtain rfl : s = 0 := none_off (by dsimp only; decide) h2
  obtain rfl : c = 0 := none_off (by dsimp only; decide) h8
  obtain rfl : z = 0 := none_off (by dsimp only; decide) h16
  rw [sizedF, if_neg (by dsimp only; decide), if_neg (by dsimp only; decide), if_neg (by dsimp only; decide)] at hz
  have hn : smallF n = true := hz
  exact ⟨_, List.mem_of_getElem? (show formsF[43]? = some ⟨37, 0, 0, false, 0, [232], -1, 0, 0, 0, 0, 6⟩ from rfl), fit_mk rfl rfl rfl rfl rfl (hn)⟩
theorem kind38 {d s c z n : Int} (h : validF ⟨38, d, s, c, z, n⟩ = true) : ∃ f ∈ formsF, fitsF f ⟨38, d, s, c, z, n⟩ = true := by
  obtain ⟨⟨_, hd, hs, hc⟩, h1, h2, h4, h8, h16, hz⟩ := valid_parts h
  obtain rfl : s = 0 := none_off (by dsimp only; decide) h2
  obtain rfl : n = 0 := none_off (by dsimp only; decide) h4
  obtain rfl : c = 0 := none_off (by dsimp only; decide) h8
  obtain rfl : z = 0 := none_off (by dsimp only; decide) h16
  exact ⟨_, List.mem_of_getElem? (show formsF[44]? = some ⟨38, 0, 0, true, 0, [255], 3, 2, 2, 0, 0, 0⟩ from rfl), fit_mk rfl rfl (fld_some (by decide) hd) rfl rfl (rfl)⟩
theorem kind39 {d s c z n : Int} (h : validF ⟨39, d, s, c, z, n⟩ = true) : ∃ f ∈ formsF, fitsF f ⟨39, d, s, c, z, n⟩ = true := by
  obtain ⟨⟨_, hd, hs, hc⟩, h1, h2, h4, h8, h16, hz⟩ := valid_parts h
  obtain rfl : s = 0 := none_off (by dsimp only; decide) h2
  obtain rfl : n = 0 := none_off (by dsimp only; decide) h4
  obtain rfl : c = 0 := none_off (by dsimp only; decide) h8
  obtain rfl : z = 0 := none_off (by dsimp only; decide) h16
  exact ⟨_, List.mem_of_getElem? (show formsF[45]? = some ⟨39, 0, 0, true, 0, [255], 3, 4, 2, 0, 0, 0⟩ from rfl), fit_mk rfl rfl (fld_some (by decide) hd) rfl rfl (rfl)⟩
theorem kind40 {d s c z n : Int} (h : validF ⟨40, d, s, c, z, n⟩ = true) : ∃ f ∈ formsF, fitsF f ⟨40, d, s, c, z, n⟩ = true := by
  obtain ⟨⟨_, hd, hs, hc⟩, h1, h2, h4, h8, h16, hz⟩ := valid_parts h
  obtain rfl : d = 0 := none_off (by dsimp only; decide) h1
  obtain rfl : s = 0 := none_off (by dsimp only; decide) h2
  obtain rfl : n = 0 := none_off (by dsimp only; decide) h4
  obtain rfl : c = 0 := none_off (by dsimp only; decide) h8
  obtain rfl : z = 0 := none_off (by dsimp only; decide) h16
  exact ⟨_, List.mem_of_getElem? (show formsF[46]? = some ⟨40, 0, 0, false, 0, [195], -1, 0, 0, 0, 0, 0⟩ from rfl), fit_mk rfl rfl rfl rfl rfl (rfl)⟩
theorem kind41 {d s c z n : Int} (h : validF ⟨41, d, s, c, z, n⟩ = true) : ∃ f ∈ formsF, fitsF f ⟨41, d, s, c, z, n⟩ = true := by
  obtain ⟨⟨_, hd, hs, hc⟩, h1, h2, h4, h8, h16, hz⟩ := valid_parts h
  obtain rfl : s = 0 := none_off (by dsimp only; decide) h2
  obtain rfl : n = 0 := none_off (by dsimp only; decide) h4
  obtain rfl : c = 0 := none_off (by dsimp only; decide) h8
  obtain rfl : z = 0 := none_off (by dsimp only; decide) h16
  exact ⟨_, List.mem_of_getElem? (show formsF[47]? = some ⟨41, 0, 0, true, 0, [80], -1, 0, 3, 0, 0, 0⟩ from rfl), fit_mk rfl rfl (fld_some (by decide) hd) rfl rfl (rfl)⟩
theorem kind42 {d s c z n : Int} (h : validF ⟨42, d, s, c, z, n⟩ = true) : ∃ f ∈ formsF, fitsF f ⟨42, d, s, c, z, n⟩ = true := by
  obtain ⟨⟨_, hd, hs, hc⟩, h1, h2, h4, h8, h16, hz⟩ := valid_parts h
  obtain rfl : s = 0 := none_off (by dsimp only; decide) h2
  obtain rfl : n = 0 := none_off (by dsimp only; decide) h4
  obtain rfl : c = 0 := none_off (by dsimp only; decide) h8
  obtain rfl : z = 0 := none_off (by dsimp only; decide) h16
  exact ⟨_, List.mem_of_getElem? (show formsF[48]? = some ⟨42, 0, 0, true, 0, [88], -1, 0, 3, 0, 0, 0⟩ from rfl), fit_mk rfl rfl (fld_some (by decide) hd) rfl rfl (rfl)⟩
theorem kind43 {d s c z n : Int} (h : validF ⟨43, d, s, c, z, n⟩ = true) : ∃ f ∈ formsF, fitsF f ⟨43, d, s, c, z, n⟩ = true := by
  obtain ⟨⟨_, hd, hs, hc⟩, h1, h2, h4, h8, h16, hz⟩ := valid_parts h
  obtain rfl : d = 0 := none_off (by dsimp only; decide) h1
  obtain rfl : s = 0 := none_off (by dsimp only; decide) h2
  obtain rfl : n = 0 := none_off (by dsimp only; decide) h4
  obtain rfl : c = 0 := none_off (by dsimp only; decide) h8
  obtain rfl : z = 0 := none_off (by dsimp only; decide) h16
  exact ⟨_, List.mem_of_getElem? (show formsF[49]? = some ⟨43, 0, 0, false, 0, [15, 5], -1, 0, 0, 0, 0, 0⟩ from rfl), fit_mk rfl rfl rfl rfl rfl (rfl)⟩
theorem kind44 {d s c z n : Int} (h : validF ⟨44, d, s, c, z, n⟩ = true) : ∃ f ∈ formsF, fitsF f ⟨44, d, s, c, z, n⟩ = true := by
  obtain ⟨⟨_, hd, hs, hc⟩, h1, h2, h4, h8, h16, hz⟩ := valid_parts h
  obtain rfl : d = 0 := none_off (by dsimp only; decide) h1
  obtain rfl : s = 0 := none_off (by dsimp only; decide) h2
  obtain rfl : n = 0 := none_off (by dsimp only; decide) h4
  obtain rfl : c = 0 := none_off (by dsimp only; decide) h8
  obtain rfl : z = 0 := none_off (by dsimp only; decide) h16
  exact ⟨_, List.mem_of_getElem? (show formsF[50]? = some ⟨44, 0, 0, false, 0, [15, 11], -1, 0, 0, 0, 0, 0⟩ from rfl), fit_mk rfl rfl rfl rfl rfl (rfl)⟩
theorem kind45 {d s c z n : Int} (h : validF ⟨45, d, s, c, z, n⟩ = true) : ∃ f ∈ formsF, fitsF f ⟨45, d, s, c, z, n⟩ = true := by
  obtain ⟨⟨_, hd, hs, hc⟩, h1, h2, h4, h8, h16, hz⟩ := valid_parts h
  obtain rfl : n = 0 := none_off (by dsimp only; decide) h4
  obtain rfl : c = 0 := none_off (by dsimp only; decide) h8
  obtain rfl : z = 0 := none_off (by dsimp only; decide) h16
  exact ⟨_, List.mem_of_getElem? (show formsF[51]? = some ⟨45, 0, 102, true, 1, [15, 110], 3, 0, 1, 2, 0, 0⟩ from rfl), fit_mk rfl rfl (fld_some (by decide) hd) (fld_some (by decide) hs) rfl (rfl)⟩
theorem kind46 {d s c z n : Int} (h : validF ⟨46, d, s, c, z, n⟩ = true) : ∃ f ∈ formsF, fitsF f ⟨46, d, s, c, z, n⟩ = true := by
  obtain ⟨⟨_, hd, hs, hc⟩, h1, h2, h4, h8, h16, hz⟩ := valid_parts h
  obtain rfl : n = 0 := none_off (by dsimp only; decide) h4
  obtain rfl : c = 0 := none_off (by dsimp only; decide) h8
  obtain rfl : z = 0 := none_off (by dsimp only; decide) h16
  exact ⟨_, List.mem_of_getElem? (show formsF[52]? = some ⟨46, 0, 102, true, 1, [15, 126], 3, 0, 2, 1, 0, 0⟩ from rfl), fit_mk rfl rfl (fld_some (by decide) hd) (fld_some (by decide) hs) rfl (rfl)⟩
theorem kind47 {d s c z n : Int} (h : validF ⟨47, d, s, c, z, n⟩ = true) : ∃ f ∈ formsF, fitsF f ⟨47, d, s, c, z, n⟩ = true := by
  obtain ⟨⟨_, hd, hs, hc⟩, h1, h2, h4, h8, h16, hz⟩ := valid_parts h
  obtain rfl : n = 0 := none_off (by dsimp only; decide) h4
  obtain rfl : c = 0 := none_off (by dsimp only; decide) h8
  obtain rfl : z = 0 := none_off (by dsimp only; decide) h16
  exact ⟨_, List.mem_of_getElem? (show formsF[53]? = some ⟨47, 0, 242, true, 0, [15, 88], 3, 0, 1, 2, 0, 0⟩ from rfl), fit_mk rfl rfl (fld_some (by decide) hd) (fld_some (by decide) hs) rfl (rfl)⟩
theorem kind48 {d s c z n : Int} (h : validF ⟨48, d, s, c, z, n⟩ = true) : ∃ f ∈ formsF, fitsF f ⟨48, d, s, c, z, n⟩ = true := by
  obtain ⟨⟨_, hd, hs, hc⟩, h1, h2, h4, h8, h16, hz⟩ := valid_parts h
  obtain rfl : n = 0 := none_off (by dsimp only; decide) h4
  obtain rfl : c = 0 := none_off (by dsimp only; decide) h8
  obtain rfl : z = 0 := none_off (by dsimp only; decide) h16
  exact ⟨_, List.mem_of_getElem? (show formsF[54]? = some ⟨48, 0, 242, true, 0, [15, 89], 3, 0, 1, 2, 0, 0⟩ from rfl), fit_mk rfl rfl (fld_some (by decide) hd) (fld_some (by decide) hs) rfl (rfl)⟩
theorem kind49 {d s c z n : Int} (h : validF ⟨49, d, s, c, z, n⟩ = true) : ∃ f ∈ formsF, fitsF f ⟨49, d, s, c, z, n⟩ = true := by
  obtain ⟨⟨_, hd, hs, hc⟩, h1, h2, h4, h8, h16, hz⟩ := valid_parts h
  obtain rfl : n = 0 := none_off (by dsimp only; decide) h4
  obtain rfl : c = 0 := none_off (by dsimp only; decide) h8
  obtain rfl : z = 0 := none_off (by dsimp only; decide) h16
  exact ⟨_, List.mem_of_getElem? (show formsF[55]? = some ⟨49, 0, 242, true, 0, [15, 92], 3, 0, 1, 2, 0, 0⟩ from rfl), fit_mk rfl rfl (fld_some (by decide) hd) (fld_some (by decide) hs) rfl (rfl)⟩
theorem kind50 {d s c z n : Int} (h : validF ⟨50, d, s, c, z, n⟩ = true) : ∃ f ∈ formsF, fitsF f ⟨50, d, s, c, z, n⟩ = true := by
  obtain ⟨⟨_, hd, hs, hc⟩, h1, h2, h4, h8, h16, hz⟩ := valid_parts h
  obtain rfl : n = 0 := none_off (by dsimp only; decide) h4
  obtain rfl : c = 0 := none_off (by dsimp only; decide) h8
  obtain rfl : z = 0 := none_off (by dsimp only; decide) h16
  exact ⟨_, List.mem_of_getElem? (show formsF[56]? = some ⟨50, 0, 242, true, 0, [15, 94], 3, 0, 1, 2, 0, 0⟩ from rfl), fit_mk rfl rfl (fld_some (by decide) hd) (fld_some (by decide) hs) rfl (rfl)⟩
theorem kind51 {d s c z n : Int} (h : validF ⟨51, d, s, c, z, n⟩ = true) : ∃ f ∈ formsF, fitsF f ⟨51, d, s, c, z, n⟩ = true := by
  obtain ⟨⟨_, hd, hs, hc⟩, h1, h2, h4, h8, h16, hz⟩ := valid_parts h
  obtain rfl : n = 0 := none_off (by dsimp only; decide) h4
  obtain rfl : c = 0 := none_off (by dsimp only; decide) h8
  obtain rfl : z = 0 := none_off (by dsimp only; decide) h16
  exact ⟨_, List.mem_of_getElem? (show formsF[57]? = some ⟨51, 0, 102, true, 0, [15, 46], 3, 0, 1, 2, 0, 0⟩ from rfl), fit_mk rfl rfl (fld_some (by decide) hd) (fld_some (by decide) hs) rfl (rfl)⟩
theorem kind52 {d s c z n : Int} (h : validF ⟨52, d, s, c, z, n⟩ = true) : ∃ f ∈ formsF, fitsF f ⟨52, d, s, c, z, n⟩ = true := by
  obtain ⟨⟨_, hd, hs, hc⟩, h1, h2, h4, h8, h16, hz⟩ := valid_parts h
  obtain rfl : n = 0 := none_off (by dsimp only; decide) h4
  obtain rfl : c = 0 := none_off (by dsimp only; decide) h8
  obtain rfl : z = 0 := none_off (by dsimp only; decide) h16
  exact ⟨_, List.mem_of_getElem? (show formsF[58]? = some ⟨52, 0, 242, true, 1, [15, 42], 3, 0, 1, 2, 0, 0⟩ from rfl), fit_mk rfl rfl (fld_some (by decide) hd) (fld_some (by decide) hs) rfl (rfl)⟩
theorem valid_form {i : Ins} (h : validF i = true) : ∃ f ∈ formsF, fitsF f i = true := by
  have hk := (validF_regs h).1
  obtain ⟨k, d, s, c, z, n⟩ := i
  have hk : 1 ≤ k ∧ k ≤ 52 := hk
  have hk2 : k = 1 ∨ k = 2 ∨ k = 3 ∨ k = 4 ∨ k = 5 ∨ k = 6 ∨ k = 7 ∨ k = 8 ∨ k = 9 ∨ k = 10 ∨ k = 11 ∨ k = 12 ∨ k = 13 ∨ k = 14 ∨ k = 15 ∨ k = 16 ∨ k = 17 ∨ k = 18 ∨ k = 19 ∨ k = 20 ∨ k = 21 ∨ k = 22 ∨ k = 23 ∨ k = 24 ∨ k = 25 ∨ k = 26 ∨ k = 27 ∨ k = 28 ∨ k = 29 ∨ k = 30 ∨ k = 31 ∨ k = 32 ∨ k = 33 ∨ k = 34 ∨ k = 35 ∨ k = 36 ∨ k = 37 ∨ k = 38 ∨ k = 39 ∨ k = 40 ∨ k = 41 ∨ k = 42 ∨ k = 43 ∨ k = 44 ∨ k = 45 ∨ k = 46 ∨ k = 47 ∨ k = 48 ∨ k = 49 ∨ k = 50 ∨ k = 51 ∨ k = 52 := by omega
  rcases hk2 with rfl | rfl | rfl | rfl | rfl | rfl | rfl | rfl | rfl | rfl | rfl | rfl | rfl | rfl | rfl | rfl | rfl | rfl | rfl | rfl | rfl | rfl | rfl | rfl | rfl | rfl | rfl | rfl | rfl | rfl | rfl | rfl | rfl | rfl | rfl | rfl | rfl | rfl | rfl | rfl | rfl | rfl | rfl | rfl | rfl | rfl | rfl | rfl | rfl | rfl | rfl | rfl
  · exact kind1 h
  · exact kind2 h
  · exact kind3 h
  · exact kind4 h
  · exact kind5 h
  · exact kind6 h
  · exact kind7 h
  · exact kind8 h
  · exact kind9 h
  · exact kind10 h
  · exact kind11 h
  · exact kind12 h
  · exact kind13 h
  · exact kind14 h
  · exact kind15 h
  · exact kind16 h
  · exact kind17 h
  · exact kind18 h
  · exact kind19 h
  · exact kind20 h
  · exact kind21 h
  · exact kind22 h
  · exact kind23 h
  · exact kind24 h
  · exact kind25 h
  · exact kind26 h
  · exact kind27 h
  · exact kind28 h
  · exact kind29 h
  · exact kind30 h
  · exact kind31 h
  · exact kind32 h
  · exact kind33 h
  · exact kind34 h
  · exact kind35 h
  · exact kind36 h
  · exact kind37 h
  · exact kind38 h
  · exact kind39 h
  · exact kind40 h
  · exact kind41 h
  · exact kind42 h
  · exact kind43 h
  · exact kind44 h
  · exact kind45 h
  · exact kind46 h
  · exact kind47 h
  · exact kind48 h
  · exact kind49 h
  · exact kind50 h
  · exact kind51 h
  · exact kind52 h
theorem refF_some {i : Ins} (h : validF i = true) : ∃ f, refF i = some f ∧ f ∈ formsF ∧ fitsF f i = true := by
  cases hf : refF i with
  | none =>
    obtain ⟨f, h1, h2⟩ := valid_form h
    have := List.find?_eq_none.1 hf f h1
    exact absurd h2 this
  | some f => exact ⟨f, rfl, List.mem_of_find?_eq_some hf, List.find?_some (p := fun f => fitsF f i) hf⟩
theorem refF_none {i : Ins} (h : ¬ validF i = true) : refF i = none := by
  cases hf : refF i with
  | none => rfl
  | some f => exact absurd (forms_enc (List.mem_of_find?_eq_some hf) (List.find?_some (p := fun f => fitsF f i) hf)).1 h
theorem ref_valid (i : Ins) : (refF i).isSome = validF i := by
  by_cases h : validF i = true
  · obtain ⟨f, h1, _⟩ := refF_some h
    rw [h1, h]; rfl
  · rw [refF_none h]
    simpa using h
theorem ref_bytes (i : Ins) : refB i = if validF i = true then encF i else [] := by
  by_cases h : validF i = true
  · obtain ⟨f, h1, h2, h3⟩ := refF_some h
    rw [if_pos h, refB, h1, (forms_enc h2 h3).2]
  · rw [if_neg h, refB, refF_none h]
theorem ref_err (i : Ins) : refE i = encE i := by
  rw [refE, ref_valid, encE]
theorem ref_at {i : Ins} {j : Nat} (hj : j < formsF.length) (hp : ∀ k, k < j → fitsF (formsF.getD k default) i = false) (h : fitsF (formsF.getD j default) i = true) : refF i = some (formsF.getD j default) := by
  rw [refF, getD_eq' hj, List.find?_eq_some_iff_getElem]
  rw [getD_eq' hj] at h
  refine ⟨h, j, hj, rfl, fun k hk => ?_⟩
  have := hp k hk
  rw [getD_eq' (by omega)] at this
  rw [this]; rfl
theorem ref_out {i : Ins} (hp : ∀ k, k < formsF.length → fitsF (formsF.getD k default) i = false) : refF i = none := by
  rw [refF, List.find?_eq_none]
  intro f hf
  obtain ⟨k, hk, rfl⟩ := List.mem_iff_getElem.1 hf
  have := hp k hk
  rw [getD_eq' hk] at this
  rw [this]; decide
end Go.Proofs.YtjndpakhmgapjaaDoor

namespace Go.Proofs.YtjndpakhmgapjaaDoor
open Go Go.RowKit
set_option linter.unusedVariables false
set_option linter.unnecessarySimpa false
set_option linter.unusedSimpArgs false

set_option maxHeartbeats 1000000 in
theorem refEncode52 (i : Ins) :
    ACalls Tryd.prog 10 [insT i] [] fun t_ S => t_ = .tup [u8s (refB i), .v (.int .i64 (refE i))] := by
  have hfl : formsF.length = 59 := rfl
  refine ACalls.intro Tryd.func10 rfl Tryd.ntmps10 (Nat.le_of_ble_eq_true rfl) rfl fun X w0 => ?_
  refine AW.rseq ?_
  refine AWL.boxOp rfl rfl (B rfl) rfl (E rfl rfl) rfl (fun b1 => ?_)
  refine AWL.y rfl rfl (B rfl) (Yv.assign rfl (E rfl rfl)) ?_
  refine AWL.y rfl rfl (B rfl) (Yv.assign rfl (E rfl rfl)) ?_
  refine AWL.nil ?_
  refine AW.rseq ?_
  refine AWL.callT rfl rfl (B rfl) rfl ce_23 (E rfl rfl) evs0 (forms50) ?_
  rintro t7 S7 rfl
  refine AWL.y rfl rfl (B rfl) (Yv.assign rfl (E rfl rfl)) ?_
  refine AWL.nil ?_
  refine AW.seq ?_
  refine AW.rseq ?_
  refine AWL.y rfl rfl (B rfl) (Yv.assign rfl (E rfl rfl)) ?_
  refine AWL.nil ?_
  refine AW.block ?_
  refine AW.loop (fun (j : Nat) => [(1, true, .v (.pointer (some ⟨b1, 0, none⟩))), (4, true, .sl 12 (formsF.flatMap formCells)), (5, true, .v (.int .i64 (j : Int)))]) (fun (j : Nat) => [.box b1 23 (insCells i)]) (fun (j : Nat) => j ≤ 59 ∧ ∀ k, k < j → fitsF (formsF.getD k default) i = false) (fun (j : Nat) => 59 - j) 0 ?_ ?_ ?_ ?_
  · exact ⟨Nat.zero_le _, fun i hi => by omega⟩
  · exact (Sub.cons rfl rfl (Sub.cons rfl rfl (Sub.cons rfl rfl Sub.nil)))
  · rfl
  ·
   intro j hinv
   obtain ⟨hj, hpre⟩ := hinv
   refine AW.seq ?_
   refine AW.rseq ?_
   refine AWL.y rfl rfl (B rfl) (Yv.move rfl (E rfl rfl)) ?_
   refine AWL.y rfl rfl (B rfl) (Yv.move rfl (E rfl rfl)) ?_
   refine AWL.y rfl rfl (B rfl) (Yv.lenSl rfl so_41 (B rfl) (E rfl rfl) len_forms) ?_
   refine AWL.y rfl rfl (B rfl) (Yv.lss rfl (E rfl rfl) (E rfl rfl)) ?_
   refine AWL.nil ?_
   refine AW.cond rfl (fun h0t => ?_) (fun h0f => ?_)
   ·
    try replace h0t := of_decide_eq_true h0t
    refine AW.skip ?_
    refine AW.seq ?_
    refine AW.block ?_
    refine AW.rseqH (HeldBox b1 (insVals i)) rfl (tells_box (k := 0) rfl) ?_
    refine AWH.tk (i := 0) rfl rfl rfl (B rfl) (heldAll (freeMove rfl (E rfl rfl))) ?_
    refine AWH.tk (i := 1) rfl rfl rfl (B rfl) (heldAll (freeMove rfl (E rfl rfl))) ?_
    refine AWH.tk (i := 4) rfl rfl rfl (B rfl) (heldLoadA rfl ag_23 (E rfl rfl) rfl rfl rfl rfl) ?_
    refine AWH.one (i := 2) (by kernel_rfl) rfl ?_
    refine AWL.y rfl rfl (B rfl) (Yv.indexSl rfl ss_41 (B rfl) (E rfl rfl) (E rfl rfl) (fun hg => ⟨rfl, (by first | omega | (simp only [len_ints, len_u8s, len_forms, len_inss]; omega))⟩)) ?_
    refine tb 0 rfl ?_
    refine AWH.one (i := 3) (by kernel_rfl) rfl ?_
    refine AWL.y rfl rfl (B rfl) (Yv.loadRpA rfl ag_45 (E rfl rfl) (fun hg => form_get (by omega))) ?_
    refine tb 0 rfl ?_
    refine AWH.one (i := 5) (by kernel_rfl) rfl ?_
    refine AWL.callP rfl rfl (B rfl) rfl ce_24 (E rfl rfl) (evsC (E rfl rfl) (evsC (E rfl rfl) evs0)) (fits51 (formsF.getD j default) i) (fun t S h => h) ?_
    refine tb 0 rfl ?_
    refine AWH.one (i := 6) (by kernel_rfl) rfl ?_
    refine AWL.y rfl rfl (B rfl) (Yv.assign rfl (E rfl rfl)) ?_
    refine tb 0 rfl ?_
    refine AWH.done (by kernel_rfl) ?_
    refine AW.rseq ?_
    refine AWL.y rfl rfl (B rfl) (Yv.move rfl (E rfl rfl)) ?_
    refine AWL.nil ?_
    refine AW.cond rfl (fun h1t => ?_) (fun h1f => ?_)
    ·
     try replace h1t := of_decide_eq_true h1t
     have hr := fits_range h1t
     refine AW.rseqH (HeldBox b1 (insVals i)) rfl (tells_box (k := 0) rfl) ?_
     refine AWH.tk (i := 0) rfl rfl rfl (B rfl) (heldAll (freeMove rfl (E rfl rfl))) ?_
     refine AWH.tk (i := 1) rfl rfl rfl (B rfl) (heldAll (freeMove rfl (E rfl rfl))) ?_
     refine AWH.tk (i := 4) rfl rfl rfl (B rfl) (heldLoadA rfl ag_23 (E rfl rfl) rfl rfl rfl rfl) ?_
     refine AWH.one (i := 2) (by kernel_rfl) rfl ?_
     refine AWL.y rfl rfl (B rfl) (Yv.indexSl rfl ss_41 (B rfl) (E rfl rfl) (E rfl rfl) (fun hg => ⟨rfl, (by first | omega | (simp only [len_ints, len_u8s, len_forms, len_inss]; omega))⟩)) ?_
     refine tb 0 rfl ?_
     refine AWH.one (i := 3) (by kernel_rfl) rfl ?_
     refine AWL.y rfl rfl (B rfl) (Yv.loadRpA rfl ag_45 (E rfl rfl) (fun hg => form_get (by omega))) ?_
     refine tb 0 rfl ?_
     refine AWH.one (i := 5) (by kernel_rfl) rfl ?_
     refine AWL.callT rfl rfl (B rfl) rfl ce_25 (E rfl rfl) (evsC (E rfl rfl) (evsC (E rfl rfl) evs0)) (bytes62 (formsF.getD j default) i (forms_ok _ (getD_mem' (by omega))) hr.1 hr.2.1 hr.2.2) ?_
     rintro t26 S26 rfl
     refine tb 0 rfl ?_
     refine AWH.one (i := 6) (by kernel_rfl) rfl ?_
     refine AWL.y rfl rfl (B rfl) (Yv.assign rfl (E rfl rfl)) ?_
     refine tb 0 rfl ?_
     refine AWH.one (i := 7) (by kernel_rfl) rfl ?_
     refine AWL.y rfl rfl (B rfl) (Yv.assign rfl (E rfl rfl)) ?_
     refine tb 0 rfl ?_
     refine AWH.done (by kernel_rfl) ?_
     refine AW.ret (retI (.tmp rfl (.tmp rfl .nil)) ?_)
     have hrf := ref_at (i := i) (j := j) (by omega) hpre h1t
     rw [refB, refE, hrf]
     rfl
    try replace h1f := of_decide_eq_false h1f
    refine AW.skip ?_
    refine AW.region ?_
    refine AWL.y rfl rfl (B rfl) (Yv.move rfl (E rfl rfl)) ?_
    refine AWL.y rfl rfl (B rfl) (Yv.addN_i64 rfl (E rfl rfl) (E rfl rfl) (fun hg => by omega)) ?_
    refine AWL.y rfl rfl (B rfl) (Yv.assign rfl (E rfl rfl)) ?_
    refine AWL.nil ?_
    refine ⟨j + 1, ⟨by omega, fun k hk => ?_⟩, by omega, Sub.cons rfl rfl (Sub.cons rfl rfl (Sub.cons rfl (by simp) Sub.nil)), rfl⟩
    rcases Nat.lt_or_ge k j with h | h
    · exact hpre k h
    · rw [show k = j by omega]; exact h1f
   try replace h0f := of_decide_eq_false h0f
   refine AW.exit ?_
   refine AW.rseq ?_
   refine AWL.y rfl rfl (B rfl) (Yv.assign rfl (E rfl rfl)) ?_
   refine AWL.y rfl rfl (B rfl) (Yv.assign rfl (E rfl rfl)) ?_
   refine AWL.nil ?_
   refine AW.retype (k := 2) (t' := u8s []) rfl (nil_sl (by decide)) ?_
   refine AW.ret (retI (.tmp rfl (.tmp rfl .nil)) ?_)
   have hrf := ref_out (i := i) (fun k hk => hpre k (by omega))
   rw [refB, refE, hrf]
   rfl

set_option maxHeartbeats 1000000 in
theorem refValid29 (i : Ins) :
    ACalls Tryd.prog 13 [insT i] [] fun t_ S => t_ = .v (.bool (validF i)) := by
  have hfl : formsF.length = 59 := rfl
  refine ACalls.intro Tryd.func13 rfl Tryd.ntmps13 (Nat.le_of_ble_eq_true rfl) rfl fun X w0 => ?_
  refine AW.rseq ?_
  refine AWL.boxOp rfl rfl (B rfl) rfl (E rfl rfl) rfl (fun b1 => ?_)
  refine AWL.y rfl rfl (B rfl) (Yv.assign rfl (E rfl rfl)) ?_
  refine AWL.nil ?_
  refine AW.rseq ?_
  refine AWL.callT rfl rfl (B rfl) rfl ce_23 (E rfl rfl) evs0 (forms50) ?_
  rintro t6 S6 rfl
  refine AWL.y rfl rfl (B rfl) (Yv.assign rfl (E rfl rfl)) ?_
  refine AWL.nil ?_
  refine AW.seq ?_
  refine AW.rseq ?_
  refine AWL.y rfl rfl (B rfl) (Yv.assign rfl (E rfl rfl)) ?_
  refine AWL.nil ?_
  refine AW.block ?_
  refine AW.loop (fun (j : Nat) => [(1, true, .v (.pointer (some ⟨b1, 0, none⟩))), (3, true, .sl 12 (formsF.flatMap formCells)), (4, true, .v (.int .i64 (j : Int)))]) (fun (j : Nat) => [.box b1 23 (insCells i)]) (fun (j : Nat) => j ≤ 59 ∧ ∀ k, k < j → fitsF (formsF.getD k default) i = false) (fun (j : Nat) => 59 - j) 0 ?_ ?_ ?_ ?_
  · exact ⟨Nat.zero_le _, fun i hi => by omega⟩
  · exact (Sub.cons rfl rfl (Sub.cons rfl rfl (Sub.cons rfl rfl Sub.nil)))
  · rfl
  ·
   intro j hinv
   obtain ⟨hj, hpre⟩ := hinv
   refine AW.seq ?_
   refine AW.rseq ?_
   refine AWL.y rfl rfl (B rfl) (Yv.move rfl (E rfl rfl)) ?_
   refine AWL.y rfl rfl (B rfl) (Yv.move rfl (E rfl rfl)) ?_
   refine AWL.y rfl rfl (B rfl) (Yv.lenSl rfl so_41 (B rfl) (E rfl rfl) len_forms) ?_
   refine AWL.y rfl rfl (B rfl) (Yv.lss rfl (E rfl rfl) (E rfl rfl)) ?_
   refine AWL.nil ?_
   refine AW.cond rfl (fun h0t => ?_) (fun h0f => ?_)
   ·
    try replace h0t := of_decide_eq_true h0t
    refine AW.skip ?_
    refine AW.seq ?_
    refine AW.block ?_
    refine AW.rseqH (HeldBox b1 (insVals i)) rfl (tells_box (k := 0) rfl) ?_
    refine AWH.tk (i := 0) rfl rfl rfl (B rfl) (heldAll (freeMove rfl (E rfl rfl))) ?_
    refine AWH.tk (i := 1) rfl rfl rfl (B rfl) (heldAll (freeMove rfl (E rfl rfl))) ?_
    refine AWH.tk (i := 4) rfl rfl rfl (B rfl) (heldLoadA rfl ag_23 (E rfl rfl) rfl rfl rfl rfl) ?_
    refine AWH.one (i := 2) (by kernel_rfl) rfl ?_
    refine AWL.y rfl rfl (B rfl) (Yv.indexSl rfl ss_41 (B rfl) (E rfl rfl) (E rfl rfl) (fun hg => ⟨rfl, (by first | omega | (simp only [len_ints, len_u8s, len_forms, len_inss]; omega))⟩)) ?_
    refine tb 0 rfl ?_
    refine AWH.one (i := 3) (by kernel_rfl) rfl ?_
    refine AWL.y rfl rfl (B rfl) (Yv.loadRpA rfl ag_45 (E rfl rfl) (fun hg => form_get (by omega))) ?_
    refine tb 0 rfl ?_
    refine AWH.one (i := 5) (by kernel_rfl) rfl ?_
    refine AWL.callP rfl rfl (B rfl) rfl ce_24 (E rfl rfl) (evsC (E rfl rfl) (evsC (E rfl rfl) evs0)) (fits51 (formsF.getD j default) i) (fun t S h => h) ?_
    refine tb 0 rfl ?_
    refine AWH.one (i := 6) (by kernel_rfl) rfl ?_
    refine AWL.y rfl rfl (B rfl) (Yv.assign rfl (E rfl rfl)) ?_
    refine tb 0 rfl ?_
    refine AWH.done (by kernel_rfl) ?_
    refine AW.rseq ?_
    refine AWL.y rfl rfl (B rfl) (Yv.move rfl (E rfl rfl)) ?_
    refine AWL.nil ?_
    refine AW.cond rfl (fun h1t => ?_) (fun h1f => ?_)
    ·
     try replace h1t := of_decide_eq_true h1t
     refine AW.rseq ?_
     refine AWL.y rfl rfl (B rfl) (Yv.assign rfl (E rfl rfl)) ?_
     refine AWL.nil ?_
     refine AW.ret (retI (.tmp rfl .nil) ?_)
     have hrf := ref_at (i := i) (j := j) (by omega) hpre h1t
     rw [← ref_valid, hrf]
     rfl
    try replace h1f := of_decide_eq_false h1f
    refine AW.skip ?_
    refine AW.region ?_
    refine AWL.y rfl rfl (B rfl) (Yv.move rfl (E rfl rfl)) ?_
    refine AWL.y rfl rfl (B rfl) (Yv.addN_i64 rfl (E rfl rfl) (E rfl rfl) (fun hg => by omega)) ?_
    refine AWL.y rfl rfl (B rfl) (Yv.assign rfl (E rfl rfl)) ?_
    refine AWL.nil ?_
    refine ⟨j + 1, ⟨by omega, fun k hk => ?_⟩, by omega, Sub.cons rfl rfl (Sub.cons rfl rfl (Sub.cons rfl (by simp) Sub.nil)), rfl⟩
    rcases Nat.lt_or_ge k j with h | h
    · exact hpre k h
    · rw [show k = j by omega]; exact h1f
   try replace h0f := of_decide_eq_false h0f
   refine AW.exit ?_
   refine AW.rseq ?_
   refine AWL.y rfl rfl (B rfl) (Yv.assign rfl (E rfl rfl)) ?_
   refine AWL.nil ?_
   refine AW.ret (retI (.tmp rfl .nil) ?_)
   have hrf := ref_out (i := i) (fun k hk => hpre k (by omega))
   rw [← ref_valid, hrf]
   rfl

theorem refEncode_ (i : Ins) : ACalls Tryd.prog 10 [insT i] [] (fun t_ S => t_ = .tup [u8s (if validF i = true then encF i else []), .v (.int .i64 (encE i))]) := by
  rw [← ref_bytes, ← ref_err]
  exact refEncode52 i
set_option maxHeartbeats 1000000 in
theorem refAll31 (l : List Ins) (hl : l.length ≤ NL) :
    ACalls Tryd.prog 19 [inssT l] [] (fun t_ S => t_ = .tup [u8s (allB l), .v (.int .i64 (allE l))]) := by
  have hnl : l.length ≤ 1099511627 := hl
  refine ACalls.intro Tryd.func19 rfl Tryd.ntmps19 (Nat.le_of_ble_eq_true rfl) rfl fun X w0 => ?_
  refine AW.rseq ?_
  refine AWL.y rfl rfl (B rfl) (Yv.assign rfl (E rfl rfl)) ?_
  refine AWL.y rfl rfl (B rfl) (Yv.assign rfl (E rfl rfl)) ?_
  refine AWL.nil ?_
  refine AW.rseq ?_
  refine AWL.y rfl rfl (B rfl) (Yv.assign rfl (E rfl rfl)) ?_
  refine AWL.nil ?_
  refine AW.rowNil 5 1 ?_
  refine AW.seq ?_
  refine AW.rseq ?_
  refine AWL.y rfl rfl (B rfl) (Yv.assign rfl (E rfl rfl)) ?_
  refine AWL.nil ?_
  refine AW.block ?_
  refine AW.loop3 (fun (j : Nat) (Ao : Option Addr) (co : Nat) => [(0, true, inssT l), (4, true, .v (.slice Ao ((l.take j).flatMap encF).length co)), (5, true, .v (.int .i64 (j : Int)))]) (fun (j : Nat) (Ao : Option Addr) (co : Nat) => [.row Ao ((l.take j).flatMap encF).length co 5 1 (((l.take j).flatMap encF).map u8)]) (fun (j : Nat) (Ao : Option Addr) (co : Nat) => j ≤ l.length ∧ ∀ i, i < j → validF (l.getD i default) = true) (fun (j : Nat) (Ao : Option Addr) (co : Nat) => l.length - j) 0 none 0 ?_ ?_ ?_ ?_
  · exact ⟨Nat.zero_le _, fun i hi => by omega⟩
  · exact (Sub.cons rfl rfl (Sub.cons rfl rfl (Sub.cons rfl rfl Sub.nil)))
  · rfl
  ·
   intro j Ao co hinv
   obtain ⟨hj, hpre⟩ := hinv
   have hb1 := enc_le (l.take j)
   have hb2 := List.length_take_le j l
   have hb3 := encF_len (l.getD j default)
   refine AW.seq ?_
   refine AW.rseq ?_
   refine AWL.y rfl rfl (B rfl) (Yv.move rfl (E rfl rfl)) ?_
   refine AWL.y rfl rfl (B rfl) (Yv.move rfl (E rfl rfl)) ?_
   refine AWL.y rfl rfl (B rfl) (Yv.lenSl rfl so_36 (B rfl) (E rfl rfl) len_inss) ?_
   refine AWL.y rfl rfl (B rfl) (Yv.lss rfl (E rfl rfl) (E rfl rfl)) ?_
   refine AWL.nil ?_
   refine AW.cond rfl (fun h0t => ?_) (fun h0f => ?_)
   ·
    try replace h0t := of_decide_eq_true h0t
    refine AW.skip ?_
    refine AW.seq ?_
    refine AW.block ?_
    refine AW.rseq ?_
    refine AWL.y rfl rfl (B rfl) (Yv.move rfl (E rfl rfl)) ?_
    refine AWL.y rfl rfl (B rfl) (Yv.move rfl (E rfl rfl)) ?_
    refine AWL.y rfl rfl (B rfl) (Yv.indexSl rfl ss_36 (B rfl) (E rfl rfl) (E rfl rfl) (fun hg => ⟨rfl, (by first | omega | (simp only [len_ints, len_u8s, len_forms, len_inss]; omega))⟩)) ?_
    refine AWL.y rfl rfl (B rfl) (Yv.loadRpA rfl ag_23 (E rfl rfl) (fun hg => ins_get (by omega))) ?_
    refine AWL.callT rfl rfl (B rfl) rfl ce_10 (E rfl rfl) (evsC (E rfl rfl) evs0) (refEncode_ (l.getD j default)) ?_
    rintro t19 S19 rfl
    refine AWL.y rfl rfl (B rfl) (Yv.move rfl (E rfl rfl)) ?_
    refine AWL.y rfl rfl (B rfl) (Yv.extract rfl (E rfl rfl) rfl) ?_
    refine AWL.y rfl rfl (B rfl) (Yv.extract rfl (E rfl rfl) rfl) ?_
    refine AWL.y rfl rfl (B rfl) (Yv.assign rfl (E rfl rfl)) ?_
    refine AWL.y rfl rfl (B rfl) (Yv.assign rfl (E rfl rfl)) ?_
    refine AWL.nil ?_
    refine AW.seq ?_
    refine AW.rseq ?_
    refine AWL.y rfl rfl (B rfl) (Yv.move rfl (E rfl rfl)) ?_
    refine AWL.y rfl rfl (B rfl) (Yv.neq rfl (E rfl rfl) (E rfl rfl)) ?_
    refine AWL.nil ?_
    refine AW.cond rfl (fun h1t => ?_) (fun h1f => ?_)
    ·
     try replace h1t := of_decide_eq_true h1t
     have hvj : ¬ validF (l.getD j default) = true := by rw [encE] at h1t; intro q; rw [if_pos q] at h1t; exact absurd h1t (by decide)
     refine AW.rseq ?_
     refine AWL.y rfl rfl (B rfl) (Yv.move rfl (E rfl rfl)) ?_
     refine AWL.y rfl rfl (B rfl) (Yv.assign rfl (E rfl rfl)) ?_
     refine AWL.y rfl rfl (B rfl) (Yv.assign rfl (E rfl rfl)) ?_
     refine AWL.nil ?_
     refine AW.retype (k := 2) (t' := u8s []) rfl (nil_sl (by decide)) ?_
     refine AW.ret (retI (.tmp rfl (.tmp rfl .nil)) ?_)
     rw [allB, allE, if_neg (all_bad (by omega) hvj), if_neg (all_bad (by omega) hvj), encE, if_neg hvj]
     rfl
    try replace h1f := of_decide_eq_false h1f
    have hvj : validF (l.getD j default) = true := by rw [encE] at h1f; by_cases q : validF (l.getD j default) = true; exact q; rw [if_neg q] at h1f; exact absurd h1f (by decide)
    refine AW.skip ?_
    rw [show (if validF (l.getD j default) = true then encF (l.getD j default) else []) = encF (l.getD j default) from if_pos hvj]
    refine AW.region ?_
    refine AWL.y rfl rfl (B rfl) (Yv.move rfl (E rfl rfl)) ?_
    refine AWL.y rfl rfl (B rfl) (Yv.move rfl (E rfl rfl)) ?_
    refine AWL.appendRow (i := 0) rfl rfl (B rfl) rfl el_24 (B rfl) rfl (E rfl rfl) (SrcT.sl so_24 (B rfl) (E rfl rfl) len_u8s) (by unfold maxLen; omega) (by omega) (fun A27 c27 => ?_)
    refine AWL.y rfl rfl (B rfl) (Yv.assign rfl (E rfl rfl)) ?_
    refine AWL.nil ?_
    refine AW.region ?_
    refine AWL.y rfl rfl (B rfl) (Yv.move rfl (E rfl rfl)) ?_
    refine AWL.y rfl rfl (B rfl) (Yv.addN_i64 rfl (E rfl rfl) (E rfl rfl) (fun hg => by omega)) ?_
    refine AWL.y rfl rfl (B rfl) (Yv.assign rfl (E rfl rfl)) ?_
    refine AWL.nil ?_
    obtain ⟨heL, heC⟩ := enc_step (l := l) (j := j) (by omega)
    refine ⟨j + 1, A27, c27, ⟨by omega, fun i hi => ?_⟩, by omega, Sub.cons rfl rfl (Sub.cons rfl (by rw [heL]) (Sub.cons rfl (by simp) Sub.nil)), ?_⟩
    · rcases Nat.lt_or_ge i j with h | h
      · exact hpre i h
      · rw [show i = j by omega]; exact hvj
    rw [heL, heC]
    rfl
   try replace h0f := of_decide_eq_false h0f
   refine AW.exit ?_
   obtain rfl : j = l.length := by omega
   rw [List.take_length]
   refine AW.freeze 0 4 rfl (B rfl) rfl ?_
   refine AW.rseq ?_
   refine AWL.y rfl rfl (B rfl) (Yv.move rfl (E rfl rfl)) ?_
   refine AWL.y rfl rfl (B rfl) (Yv.assign rfl (E rfl rfl)) ?_
   refine AWL.y rfl rfl (B rfl) (Yv.assign rfl (E rfl rfl)) ?_
   refine AWL.nil ?_
   refine AW.ret (retI (.tmp rfl (.tmp rfl .nil)) ?_)
   rw [allB, allE, if_pos (all_good (fun i hi => hpre i (by omega))), if_pos (all_good (fun i hi => hpre i (by omega)))]
   rfl

end Go.Proofs.YtjndpakhmgapjaaDoor

namespace Go.Proofs.YtjndpakhmgapjaaDoor
open Go Go.RowKit Go.Lib
set_option linter.unusedSimpArgs false
set_option linter.unusedVariables false
set_option linter.unnecessarySimpa false
theorem AW.rowMax {cx : Cx} {env : Env} {S : St} {Q : Exit → Env → St → Prop} {code : Code} {n c k : Nat} {A : Option Addr} {e : TypeId} {cs : List T} (i : Nat) (hi : S[i]? = some (.row A n c e k cs)) (h : n ≤ c → c ≤ maxLen → cs.length = n * k → AW cx code Q env S) : AW cx code Q env S := fun a w hs => by
  obtain ⟨us, hr, hV⟩ := hs.row hi
  exact h hr.2.2.1 hr.2.1 (by rw [hV.len, hr.1]) a w hs
theorem digit_byte {z : Int} (h : 0 ≤ z) : byteOf (48 + z % 10) = UInt8.ofNat (48 + z.toNat % 10) := by
  unfold byteOf
  congr 1
  omega
theorem dec_step {z : Int} (h : 10 ≤ z) : decDigits (z / 10).toNat ++ [byteOf (48 + z % 10)] = decDigits z.toNat := by
  rw [digit_byte (by omega)]
  conv => rhs; rw [decDigits, dif_neg (by omega)]
  rw [show (z / 10).toNat = z.toNat / 10 by omega]
theorem dec_last {z : Int} (h0 : 0 ≤ z) (h : ¬ 10 ≤ z) : [byteOf (48 + z % 10)] = decDigits z.toNat := by
  rw [digit_byte h0, decDigits, dif_pos (by omega), show z.toNat % 10 = z.toNat by omega]
theorem dec_len {z : Int} (h0 : 0 ≤ z) (h1 : z ≤ 18446744073709551615) : (decDigits z.toNat).length ≤ 20 := by
  rw [decDigits_length]
  exact nDigits_le20 _ (by omega)
theorem itoa_neg' {n : Int} (h : n < 0) : (45 :: decDigits (-(n + 1) + 1).toNat) = itoa n := by
  rw [itoa, if_pos h, show (-(n + 1) + 1).toNat = n.natAbs by omega]
theorem itoa_pos' {n : Int} (h : ¬ n < 0) : decDigits n.toNat = itoa n := by rw [itoa, if_neg h]
def words2L : List (List UInt8) := [] :: wordsL
theorem word2_get {j : Nat} (h : j < 53) : (words2L.map sv)[j * 1]? = some (sv (words2L.getD j [])) := by
  have : j < words2L.length := h
  simp [this]
theorem word2 {k : Int} (h0 : 1 ≤ k) : words2L.getD k.toNat [] = wordT k := by
  obtain ⟨j, hj⟩ : ∃ j, k.toNat = j + 1 := ⟨k.toNat - 1, by omega⟩
  unfold wordT words2L
  rw [hj]
  rfl
def putR (p n : Int) (s : List UInt8) : List UInt8 := if (!decide (p = 0)) = true then s ++ (32 :: itoa n) else s
def putZ (p n : Int) (s : List UInt8) : List UInt8 := if 0 < p then s ++ (32 :: itoa n) else s
def textR (f : FormF) (i : Ins) : List UInt8 := putZ f.size i.size (putR f.cond i.cond (putR f.imm i.imm (putR f.s i.s (putR f.d i.d (wordT i.kind)))))
theorem put_same {f has p n : Int} {s : List UInt8} (h : putOn f has = !decide (p = 0)) : putR p n s = putG f has n s := by
  unfold putR putG
  rw [h]
theorem putZ_same {f has p n : Int} {s : List UInt8} (h : putOn f has = decide (0 < p)) : putZ p n s = putG f has n s := by
  unfold putZ putG
  rw [h]
  by_cases hp : 0 < p
  · rw [if_pos (by simp [hp]), if_pos (by simp [hp])]
  · rw [if_neg (by simp [hp]), if_neg (by simp [hp])]
set_option maxRecDepth 10000 in
theorem forms_put : ∀ f ∈ formsF, putOn (fieldsF f.kind).1 1 = !decide (f.d = 0) ∧ putOn (fieldsF f.kind).1 2 = !decide (f.s = 0) ∧ putOn (fieldsF f.kind).1 4 = !decide (f.imm = 0) ∧ putOn (fieldsF f.kind).1 8 = !decide (f.cond = 0) ∧ putOn (fieldsF f.kind).1 16 = decide (0 < f.size) := by decide +kernel
theorem fits_kind {f : FormF} {i : Ins} (h : fitsF f i = true) : f.kind = i.kind := by
  unfold fitsF at h
  simp only [Bool.and_eq_true, decide_eq_true_eq] at h
  exact h.1.1.1.1.1
theorem textR_same {f : FormF} {i : Ins} (hf : f ∈ formsF) (h : fitsF f i = true) : textR f i = textB i := by
  obtain ⟨h1, h2, h3, h4, h5⟩ := forms_put f hf
  rw [fits_kind h] at h1 h2 h3 h4 h5
  unfold textR textB
  rw [put_same h1, put_same h2, put_same h3, put_same h4, putZ_same h5]
theorem text_ref {j : Nat} {i : Ins} (hj : j < formsF.length) (hp : ∀ k, k < j → fitsF (formsF.getD k default) i = false) (h : fitsF (formsF.getD j default) i = true) : textR (formsF.getD j default) i = textF i := by
  have hr := ref_at hj hp h
  have hv : validF i = true := by rw [← ref_valid, hr]; rfl
  rw [textF, if_pos hv]
  exact textR_same (by rw [List.getD_eq_getElem?_getD, List.getElem?_eq_getElem hj]; exact List.getElem_mem hj) h
theorem text_none {i : Ins} (hp : ∀ k, k < formsF.length → fitsF (formsF.getD k default) i = false) : textF i = [] := by
  have hv : ¬ validF i = true := by rw [← ref_valid, ref_out hp]; decide
  rw [textF, if_neg hv]
theorem putR_le (p n : Int) (s : List UInt8) (h : I64 n) : (putR p n s).length ≤ s.length + 22 := by
  have := itoa_length_le n h.1 h.2
  unfold putR
  split
  · rw [List.length_append, List.length_cons]; omega
  · omega
theorem fit_at {j : Nat} {i : Ins} (hj : j < formsF.length) (hp : ∀ k, k < j → fitsF (formsF.getD k default) i = false) (h : fitsF (formsF.getD j default) i = true) : (1 ≤ i.kind ∧ i.kind ≤ 52) := by
  have hv : validF i = true := by rw [← ref_valid, ref_at hj hp h]; rfl
  exact (validF_regs hv).1
end Go.Proofs.YtjndpakhmgapjaaDoor

namespace Go.Proofs.YtjndpakhmgapjaaDoor
open Go Go.RowKit
set_option linter.unusedVariables false
set_option linter.unnecessarySimpa false
set_option linter.unusedSimpArgs false

set_option maxHeartbeats 400000 in
theorem digits57 (z : Int) (h0 : 0 ≤ z) (h1 : z ≤ 18446744073709551615) :
    ACalls Tryd.prog 57 [.v (.int .u64 z)] [] (fun t_ S => t_ = sv (Lib.decDigits z.toNat)) := by
  refine ACalls.intro Tryd.func57 rfl Tryd.ntmps57 (Nat.le_of_ble_eq_true rfl) rfl fun X w0 => ?_
  refine AW.rseq ?_
  refine AWL.y rfl rfl (B rfl) (Yv.assign rfl (E rfl rfl)) ?_
  refine AWL.nil ?_
  refine AW.rseq ?_
  refine AWL.y rfl rfl (B rfl) (Yv.move rfl (E rfl rfl)) ?_
  refine AWL.y rfl rfl (B rfl) (Yv.remN rfl (E rfl rfl) (E rfl rfl) (fun hg => by omega)) ?_
  refine AWL.y rfl rfl (B rfl) (Yv.addN_u64 rfl (E rfl rfl) (E rfl rfl) (fun hg => by omega)) ?_
  refine AWL.y rfl rfl (B rfl) (Yv.conv rfl Tryd.underlying78 kd_5 (E rfl rfl)) ?_
  rw [byteOf_wrap]
  refine AWL.buildSlice1 rfl rfl (B rfl) rfl el_24 rfl (evsC (E rfl rfl) evs0) (Nat.le_of_ble_eq_true rfl) rfl rfl ?_
  refine AWL.y rfl rfl (B rfl) (Yv.bytesStr (l := [byteOf (48 + z % 10)]) rfl by_24 st_9 (E rfl rfl)) ?_
  refine AWL.y rfl rfl (B rfl) (Yv.assign rfl (E rfl rfl)) ?_
  refine AWL.nil ?_
  refine AW.seq ?_
  refine AW.rseq ?_
  refine AWL.y rfl rfl (B rfl) (Yv.move rfl (E rfl rfl)) ?_
  refine AWL.y rfl rfl (B rfl) (Yv.geq rfl (E rfl rfl) (E rfl rfl)) ?_
  refine AWL.nil ?_
  refine AW.cond rfl (fun h0t => ?_) (fun h0f => ?_)
  ·
   try replace h0t := of_decide_eq_true h0t
   refine AW.rseq ?_
   refine AWL.y rfl rfl (B rfl) (Yv.move rfl (E rfl rfl)) ?_
   refine AWL.y rfl rfl (B rfl) (Yv.quoN_u64 rfl (E rfl rfl) (E rfl rfl) (fun hg => by omega)) ?_
   refine AWL.callT rfl rfl (B rfl) rfl ce_57 (E rfl rfl) (evsC (E rfl rfl) evs0) (digits57 (z / 10) (by omega) (by omega)) ?_
   rintro t14 S14 rfl
   refine AWL.y rfl rfl (B rfl) (Yv.move rfl (E rfl rfl)) ?_
   have hdl := dec_len (z := z / 10) (by omega) (by omega)
   refine AWL.y rfl rfl (B rfl) (Yv.addL rfl (E rfl rfl) (E rfl rfl) (fun hg => by first | omega | (simp only [List.length_append, List.length_cons, List.length_nil]; omega))) ?_
   refine AWL.y rfl rfl (B rfl) (Yv.assign rfl (E rfl rfl)) ?_
   refine AWL.nil ?_
   refine AW.ret (retI (.tmp rfl .nil) ?_)
   rw [← dec_step h0t]
   rfl
  try replace h0f := of_decide_eq_false h0f
  refine AW.skip ?_
  refine AW.rseq ?_
  refine AWL.y rfl rfl (B rfl) (Yv.move rfl (E rfl rfl)) ?_
  refine AWL.y rfl rfl (B rfl) (Yv.assign rfl (E rfl rfl)) ?_
  refine AWL.nil ?_
  refine AW.ret (retI (.tmp rfl .nil) ?_)
  rw [← dec_last h0 h0f]
  rfl

termination_by z.toNat
decreasing_by all_goals omega

set_option maxHeartbeats 400000 in
theorem decimal43 (n : Int) (hn : I64 n) :
    ACalls Tryd.prog 43 [.v (.int .i64 n)] [] (fun t_ S => t_ = sv (Lib.itoa n)) := by
  obtain ⟨hn0, hn1⟩ := hn
  refine ACalls.intro Tryd.func43 rfl Tryd.ntmps43 (Nat.le_of_ble_eq_true rfl) rfl fun X w0 => ?_
  refine AW.rseq ?_
  refine AWL.y rfl rfl (B rfl) (Yv.assign rfl (E rfl rfl)) ?_
  refine AWL.nil ?_
  refine AW.seq ?_
  refine AW.rseq ?_
  refine AWL.y rfl rfl (B rfl) (Yv.move rfl (E rfl rfl)) ?_
  refine AWL.y rfl rfl (B rfl) (Yv.lss rfl (E rfl rfl) (E rfl rfl)) ?_
  refine AWL.nil ?_
  refine AW.cond rfl (fun h0t => ?_) (fun h0f => ?_)
  ·
   try replace h0t := of_decide_eq_true h0t
   refine AW.rseq ?_
   refine AWL.y rfl rfl (B rfl) (Yv.move rfl (E rfl rfl)) ?_
   refine AWL.y rfl rfl (B rfl) (Yv.addN_i64 rfl (E rfl rfl) (E rfl rfl) (fun hg => by omega)) ?_
   refine AWL.y rfl rfl (B rfl) (Yv.neg rfl (E rfl rfl)) ?_
   rw [show IntKind.i64.wrap (0 - (n + 1)) = -(n + 1) from by rw [Int.zero_sub]; exact IntWalk.i64_in _ ⟨by omega, by omega⟩]
   refine AWL.y rfl rfl (B rfl) (Yv.convN_u64 rfl Tryd.underlying2 kd_78 (E rfl rfl) (fun hg => by omega)) ?_
   refine AWL.y rfl rfl (B rfl) (Yv.addN_u64 rfl (E rfl rfl) (E rfl rfl) (fun hg => by omega)) ?_
   refine AWL.callT rfl rfl (B rfl) rfl ce_57 (E rfl rfl) (evsC (E rfl rfl) evs0) (digits57 (-(n + 1) + 1) (by omega) (by omega)) ?_
   rintro t10 S10 rfl
   have hdl := dec_len (z := -(n + 1) + 1) (by omega) (by omega)
   refine AWL.y rfl rfl (B rfl) (Yv.addL rfl (E rfl rfl) (E rfl rfl) (fun hg => by first | omega | (simp only [List.length_append, List.length_cons, List.length_nil]; omega))) ?_
   refine AWL.y rfl rfl (B rfl) (Yv.assign rfl (E rfl rfl)) ?_
   refine AWL.nil ?_
   refine AW.ret (retI (.tmp rfl .nil) ?_)
   rw [← itoa_neg' h0t]
   rfl
  try replace h0f := of_decide_eq_false h0f
  refine AW.skip ?_
  refine AW.rseq ?_
  refine AWL.y rfl rfl (B rfl) (Yv.move rfl (E rfl rfl)) ?_
  refine AWL.y rfl rfl (B rfl) (Yv.convN_u64 rfl Tryd.underlying2 kd_78 (E rfl rfl) (fun hg => by omega)) ?_
  refine AWL.callT rfl rfl (B rfl) rfl ce_57 (E rfl rfl) (evsC (E rfl rfl) evs0) (digits57 n (by omega) (by omega)) ?_
  rintro t14 S14 rfl
  refine AWL.y rfl rfl (B rfl) (Yv.assign rfl (E rfl rfl)) ?_
  refine AWL.nil ?_
  refine AW.ret (retI (.tmp rfl .nil) ?_)
  rw [← itoa_pos' h0f]
  rfl

set_option maxRecDepth 2000 in
set_option maxHeartbeats 2000000 in
theorem Word42 (k : Int) (h0 : 1 ≤ k) (h1 : k ≤ 52) :
    ACalls Tryd.prog 42 [.v (.int .i64 k)] [] (fun t_ S => t_ = sv (wordT k)) := by
  refine ACalls.intro Tryd.func42 rfl Tryd.ntmps42 (Nat.le_of_ble_eq_true rfl) rfl fun X w0 => ?_
  refine AW.rseq ?_
  refine AWL.y rfl rfl (B rfl) (Yv.assign rfl (E rfl rfl)) ?_
  refine AWL.nil ?_
  refine AW.rseq ?_
  refine AWL.buildSlice1 rfl rfl (B rfl) rfl el_81 rfl (evsC (E rfl rfl) (evsC (E rfl rfl) (evsC (E rfl rfl) (evsC (E rfl rfl) (evsC (E rfl rfl) (evsC (E rfl rfl) (evsC (E rfl rfl) (evsC (E rfl rfl) (evsC (E rfl rfl) (evsC (E rfl rfl) (evsC (E rfl rfl) (evsC (E rfl rfl) (evsC (E rfl rfl) (evsC (E rfl rfl) (evsC (E rfl rfl) (evsC (E rfl rfl) (evsC (E rfl rfl) (evsC (E rfl rfl) (evsC (E rfl rfl) (evsC (E rfl rfl) (evsC (E rfl rfl) (evsC (E rfl rfl) (evsC (E rfl rfl) (evsC (E rfl rfl) (evsC (E rfl rfl) (evsC (E rfl rfl) (evsC (E rfl rfl) (evsC (E rfl rfl) (evsC (E rfl rfl) (evsC (E rfl rfl) (evsC (E rfl rfl) (evsC (E rfl rfl) (evsC (E rfl rfl) (evsC (E rfl rfl) (evsC (E rfl rfl) (evsC (E rfl rfl) (evsC (E rfl rfl) (evsC (E rfl rfl) (evsC (E rfl rfl) (evsC (E rfl rfl) (evsC (E rfl rfl) (evsC (E rfl rfl) (evsC (E rfl rfl) (evsC (E rfl rfl) (evsC (E rfl rfl) (evsC (E rfl rfl) (evsC (E rfl rfl) (evsC (E rfl rfl) (evsC (E rfl rfl) (evsC (E rfl rfl) (evsC (E rfl rfl) (evsC (E rfl rfl) (evsC (E rfl rfl) evs0))))))))))))))))))))))))))))))))))))))))))))))))))))) (Nat.le_of_ble_eq_true rfl) rfl rfl ?_
  refine AWL.y rfl rfl (B rfl) (Yv.assign rfl (E rfl rfl)) ?_
  refine AWL.nil ?_
  refine AW.rseq ?_
  refine AWL.y rfl rfl (B rfl) (Yv.move rfl (E rfl rfl)) ?_
  refine AWL.y rfl rfl (B rfl) (Yv.move rfl (E rfl rfl)) ?_
  refine AWL.y rfl rfl (B rfl) (Yv.indexSl (j := (k.toNat)) rfl ss_81 (B rfl) (E rfl rfl) (E rfl rfl) (fun hg => ⟨by omega, by show k.toNat * 1 < 53; omega⟩)) ?_
  refine AWL.y rfl rfl (B rfl) (Yv.loadRp rfl ag_9 (E rfl rfl) (fun hg => word2_get (by omega))) ?_
  refine AWL.y rfl rfl (B rfl) (Yv.assign rfl (E rfl rfl)) ?_
  refine AWL.nil ?_
  refine AW.ret (retI (.tmp rfl .nil) ?_)
  rw [← word2 h0]
  rfl

set_option maxHeartbeats 2000000 in
theorem refText15 (i : Ins) (hI : InsOk i) :
    ACalls Tryd.prog 15 [insT i] [] (fun t_ S => t_ = sv (textF i)) := by
  have hfl : formsF.length = 59 := rfl
  have l0 := wordT_len i.kind
  
  refine ACalls.intro Tryd.func15 rfl Tryd.ntmps15 (Nat.le_of_ble_eq_true rfl) rfl fun X w0 => ?_
  refine AW.rseq ?_
  refine AWL.boxOp rfl rfl (B rfl) rfl (E rfl rfl) rfl (fun b1 => ?_)
  refine AWL.y rfl rfl (B rfl) (Yv.assign rfl (E rfl rfl)) ?_
  refine AWL.nil ?_
  refine AW.rseq ?_
  refine AWL.callT rfl rfl (B rfl) rfl ce_23 (E rfl rfl) evs0 (forms50) ?_
  rintro t8 S8 rfl
  refine AWL.y rfl rfl (B rfl) (Yv.assign rfl (E rfl rfl)) ?_
  refine AWL.nil ?_
  refine AW.seq ?_
  refine AW.rseq ?_
  refine AWL.y rfl rfl (B rfl) (Yv.assign rfl (E rfl rfl)) ?_
  refine AWL.nil ?_
  refine AW.block ?_
  refine AW.loop (fun (j : Nat) => [(1, true, .v (.pointer (some ⟨b1, 0, none⟩))), (3, true, .sl 12 (formsF.flatMap formCells)), (4, true, .v (.int .i64 (j : Int)))]) (fun (j : Nat) => [.box b1 23 (insCells i)]) (fun (j : Nat) => j ≤ 59 ∧ ∀ k, k < j → fitsF (formsF.getD k default) i = false) (fun (j : Nat) => 59 - j) 0 ?_ ?_ ?_ ?_
  · exact ⟨Nat.zero_le _, fun i hi => by omega⟩
  · exact (Sub.cons rfl rfl (Sub.cons rfl rfl (Sub.cons rfl rfl Sub.nil)))
  · rfl
  ·
   intro j hinv
   obtain ⟨hj, hpre⟩ := hinv
   refine AW.seq ?_
   refine AW.rseq ?_
   refine AWL.y rfl rfl (B rfl) (Yv.move rfl (E rfl rfl)) ?_
   refine AWL.y rfl rfl (B rfl) (Yv.move rfl (E rfl rfl)) ?_
   refine AWL.y rfl rfl (B rfl) (Yv.lenSl rfl so_41 (B rfl) (E rfl rfl) len_forms) ?_
   refine AWL.y rfl rfl (B rfl) (Yv.lss rfl (E rfl rfl) (E rfl rfl)) ?_
   refine AWL.nil ?_
   refine AW.cond rfl (fun h0t => ?_) (fun h0f => ?_)
   ·
    try replace h0t := of_decide_eq_true h0t
    refine AW.skip ?_
    refine AW.seq ?_
    refine AW.block ?_
    refine AW.rseq ?_
    refine AWL.y rfl rfl (B rfl) (Yv.move rfl (E rfl rfl)) ?_
    refine AWL.y rfl rfl (B rfl) (Yv.move rfl (E rfl rfl)) ?_
    refine AWL.y rfl rfl (B rfl) (Yv.indexSl rfl ss_41 (B rfl) (E rfl rfl) (E rfl rfl) (fun hg => ⟨rfl, (by first | omega | (simp only [len_u8s, len_ints, len_forms]; omega))⟩)) ?_
    refine AWL.y rfl rfl (B rfl) (Yv.loadRpA rfl ag_45 (E rfl rfl) (fun hg => form_get (by omega))) ?_
    refine AWL.allocOp rfl rfl (B rfl) rfl zc_45 (fun b5 => ?_)
    refine AWL.storeBox (i := 1) rfl rfl rfl ag_45 rfl (E rfl rfl) (E rfl rfl) rfl rfl (Nat.le_of_ble_eq_true rfl) ?_
    refine AWL.nil ?_
    refine AW.rseq ?_
    refine AWL.y rfl rfl (B rfl) (Yv.loadBoxA rfl ag_45 (i := 1) rfl (E rfl rfl) rfl rfl) ?_
    refine AWL.y rfl rfl (B rfl) (Yv.loadBoxA rfl ag_23 (i := 0) rfl (E rfl rfl) rfl rfl) ?_
    refine AWL.callP rfl rfl (B rfl) rfl ce_24 (E rfl rfl) (evsC (E rfl rfl) (evsC (E rfl rfl) evs0)) (fits51 (formsF.getD j default) i) (fun t S h => h) ?_
    refine AWL.y rfl rfl (B rfl) (Yv.assign rfl (E rfl rfl)) ?_
    refine AWL.nil ?_
    refine AW.seq ?_
    refine AW.rseq ?_
    refine AWL.y rfl rfl (B rfl) (Yv.move rfl (E rfl rfl)) ?_
    refine AWL.y rfl rfl (B rfl) (Yv.not rfl (E rfl rfl)) ?_
    refine AWL.nil ?_
    refine AW.cond rfl (fun h1t => ?_) (fun h1f => ?_)
    ·
     try replace h1t := of_decide_eq_true h1t
     have hnf : fitsF (formsF.getD j default) i = false := by simpa using h1t
     refine AW.exit ?_
     refine AW.dropAt 1 ?_
     refine AW.region ?_
     refine AWL.y rfl rfl (B rfl) (Yv.move rfl (E rfl rfl)) ?_
     refine AWL.y rfl rfl (B rfl) (Yv.addN_i64 rfl (E rfl rfl) (E rfl rfl) (fun hg => by omega)) ?_
     refine AWL.y rfl rfl (B rfl) (Yv.assign rfl (E rfl rfl)) ?_
     refine AWL.nil ?_
     refine ⟨j + 1, ⟨by omega, fun k hk => ?_⟩, by omega, Sub.cons rfl rfl (Sub.cons rfl rfl (Sub.cons rfl (by simp) Sub.nil)), rfl⟩
     rcases Nat.lt_or_ge k j with h | h
     · exact hpre k h
     · rw [show k = j by omega]; exact hnf
    try replace h1f := of_decide_eq_false h1f
    have hfit : fitsF (formsF.getD j default) i = true := by simpa using h1f
    refine AW.skip ?_
    have hkk := fit_at (i := i) (j := j) (by omega) hpre hfit
    have l1 := putR_le (formsF.getD j default).d i.d (wordT i.kind) hI.d
    have l2 := putR_le (formsF.getD j default).s i.s (putR (formsF.getD j default).d i.d (wordT i.kind)) hI.s
    have l3 := putR_le (formsF.getD j default).imm i.imm (putR (formsF.getD j default).s i.s (putR (formsF.getD j default).d i.d (wordT i.kind))) hI.imm
    have l4 := putR_le (formsF.getD j default).cond i.cond (putR (formsF.getD j default).imm i.imm (putR (formsF.getD j default).s i.s (putR (formsF.getD j default).d i.d (wordT i.kind)))) hI.cond
    refine AW.rseq ?_
    refine AWL.y rfl rfl (B rfl) (Yv.fieldBox rfl fo_23_0 (E rfl rfl)) ?_
    refine AWL.y rfl rfl (B rfl) (Yv.loadBox rfl ag_3 (i := 0) rfl (E rfl rfl) rfl) ?_
    refine AWL.callT rfl rfl (B rfl) rfl ce_42 (E rfl rfl) (evsC (E rfl rfl) evs0) (Word42 i.kind hkk.1 hkk.2) ?_
    rintro t26 S26 rfl
    refine AWL.y rfl rfl (B rfl) (Yv.assign rfl (E rfl rfl)) ?_
    refine AWL.nil ?_
    refine AW.mid (α := Unit) (fun _ => [(1, true, .v (.pointer (some ⟨b1, 0, none⟩))), (5, true, .v (.pointer (some ⟨b5, 0, none⟩))), (7, true, sv (putR (formsF.getD j default).d i.d (wordT i.kind)))]) (fun _ => [.box b1 23 (insCells i), .box b5 45 (formCells (formsF.getD j default))]) (fun _ => True) ?_ ?_
    ·
     refine AW.rseq ?_
     refine AWL.y rfl rfl (B rfl) (Yv.fieldBox rfl fo_45_8 (E rfl rfl)) ?_
     refine AWL.y rfl rfl (B rfl) (Yv.loadBox rfl ag_3 (i := 1) rfl (E rfl rfl) rfl) ?_
     refine AWL.y rfl rfl (B rfl) (Yv.neq rfl (E rfl rfl) (E rfl rfl)) ?_
     refine AWL.nil ?_
     refine AW.cond rfl (fun h2t => ?_) (fun h2f => ?_)
     ·
      try replace h2t := of_decide_eq_true h2t
      refine AW.region ?_
      have hil := Lib.itoa_length_le i.d hI.d.1 hI.d.2
      refine AWL.y rfl rfl (B rfl) (Yv.move rfl (E rfl rfl)) ?_
      refine AWL.y rfl rfl (B rfl) (Yv.addL rfl (E rfl rfl) (E rfl rfl) (fun hg => by first | omega | (simp only [List.length_append, List.length_cons, List.length_nil]; omega))) ?_
      refine AWL.y rfl rfl (B rfl) (Yv.fieldBox rfl fo_23_1 (E rfl rfl)) ?_
      refine AWL.y rfl rfl (B rfl) (Yv.loadBox rfl ag_3 (i := 0) rfl (E rfl rfl) rfl) ?_
      refine AWL.callT rfl rfl (B rfl) rfl ce_43 (E rfl rfl) (evsC (E rfl rfl) evs0) (decimal43 i.d hI.d) ?_
      rintro t34 S34 rfl
      refine AWL.y rfl rfl (B rfl) (Yv.addL rfl (E rfl rfl) (E rfl rfl) (fun hg => by first | omega | (simp only [List.length_append, List.length_cons, List.length_nil]; omega))) ?_
      refine AWL.y rfl rfl (B rfl) (Yv.assign rfl (E rfl rfl)) ?_
      refine AWL.nil ?_
      refine ⟨(), trivial, (Sub.cons rfl rfl (Sub.cons rfl rfl (Sub.cons rfl (by rw [putR, if_pos h2t, List.append_assoc]; rfl) Sub.nil))), rfl⟩
     try replace h2f := of_decide_eq_false h2f
     refine AW.skip ?_
     refine ⟨(), trivial, (Sub.cons rfl rfl (Sub.cons rfl rfl (Sub.cons rfl (by rw [putR, if_neg (ne_true_of_eq_false h2f)]) Sub.nil))), rfl⟩
    ·
     rintro _ hmid
     refine AW.mid (α := Unit) (fun _ => [(1, true, .v (.pointer (some ⟨b1, 0, none⟩))), (5, true, .v (.pointer (some ⟨b5, 0, none⟩))), (7, true, sv (putR (formsF.getD j default).s i.s (putR (formsF.getD j default).d i.d (wordT i.kind))))]) (fun _ => [.box b1 23 (insCells i), .box b5 45 (formCells (formsF.getD j default))]) (fun _ => True) ?_ ?_
     ·
      refine AW.rseq ?_
      refine AWL.y rfl rfl (B rfl) (Yv.fieldBox rfl fo_45_9 (E rfl rfl)) ?_
      refine AWL.y rfl rfl (B rfl) (Yv.loadBox rfl ag_3 (i := 1) rfl (E rfl rfl) rfl) ?_
      refine AWL.y rfl rfl (B rfl) (Yv.neq rfl (E rfl rfl) (E rfl rfl)) ?_
      refine AWL.nil ?_
      refine AW.cond rfl (fun h3t => ?_) (fun h3f => ?_)
      ·
       try replace h3t := of_decide_eq_true h3t
       refine AW.region ?_
       have hil := Lib.itoa_length_le i.s hI.s.1 hI.s.2
       refine AWL.y rfl rfl (B rfl) (Yv.move rfl (E rfl rfl)) ?_
       refine AWL.y rfl rfl (B rfl) (Yv.addL rfl (E rfl rfl) (E rfl rfl) (fun hg => by first | omega | (simp only [List.length_append, List.length_cons, List.length_nil]; omega))) ?_
       refine AWL.y rfl rfl (B rfl) (Yv.fieldBox rfl fo_23_2 (E rfl rfl)) ?_
       refine AWL.y rfl rfl (B rfl) (Yv.loadBox rfl ag_3 (i := 0) rfl (E rfl rfl) rfl) ?_
       refine AWL.callT rfl rfl (B rfl) rfl ce_43 (E rfl rfl) (evsC (E rfl rfl) evs0) (decimal43 i.s hI.s) ?_
       rintro t43 S43 rfl
       refine AWL.y rfl rfl (B rfl) (Yv.addL rfl (E rfl rfl) (E rfl rfl) (fun hg => by first | omega | (simp only [List.length_append, List.length_cons, List.length_nil]; omega))) ?_
       refine AWL.y rfl rfl (B rfl) (Yv.assign rfl (E rfl rfl)) ?_
       refine AWL.nil ?_
       refine ⟨(), trivial, (Sub.cons rfl rfl (Sub.cons rfl rfl (Sub.cons rfl (by rw [putR, if_pos h3t, List.append_assoc]; rfl) Sub.nil))), rfl⟩
      try replace h3f := of_decide_eq_false h3f
      refine AW.skip ?_
      refine ⟨(), trivial, (Sub.cons rfl rfl (Sub.cons rfl rfl (Sub.cons rfl (by rw [putR, if_neg (ne_true_of_eq_false h3f)]) Sub.nil))), rfl⟩
     ·
      rintro _ hmid
      refine AW.mid (α := Unit) (fun _ => [(1, true, .v (.pointer (some ⟨b1, 0, none⟩))), (5, true, .v (.pointer (some ⟨b5, 0, none⟩))), (7, true, sv (putR (formsF.getD j default).imm i.imm (putR (formsF.getD j default).s i.s (putR (formsF.getD j default).d i.d (wordT i.kind)))))]) (fun _ => [.box b1 23 (insCells i), .box b5 45 (formCells (formsF.getD j default))]) (fun _ => True) ?_ ?_
      ·
       refine AW.rseq ?_
       refine AWL.y rfl rfl (B rfl) (Yv.fieldBox rfl fo_45_11 (E rfl rfl)) ?_
       refine AWL.y rfl rfl (B rfl) (Yv.loadBox rfl ag_3 (i := 1) rfl (E rfl rfl) rfl) ?_
       refine AWL.y rfl rfl (B rfl) (Yv.neq rfl (E rfl rfl) (E rfl rfl)) ?_
       refine AWL.nil ?_
       refine AW.cond rfl (fun h4t => ?_) (fun h4f => ?_)
       ·
        try replace h4t := of_decide_eq_true h4t
        refine AW.region ?_
        have hil := Lib.itoa_length_le i.imm hI.imm.1 hI.imm.2
        refine AWL.y rfl rfl (B rfl) (Yv.move rfl (E rfl rfl)) ?_
        refine AWL.y rfl rfl (B rfl) (Yv.addL rfl (E rfl rfl) (E rfl rfl) (fun hg => by first | omega | (simp only [List.length_append, List.length_cons, List.length_nil]; omega))) ?_
        refine AWL.y rfl rfl (B rfl) (Yv.fieldBox rfl fo_23_5 (E rfl rfl)) ?_
        refine AWL.y rfl rfl (B rfl) (Yv.loadBox rfl ag_2 (i := 0) rfl (E rfl rfl) rfl) ?_
        refine AWL.callT rfl rfl (B rfl) rfl ce_43 (E rfl rfl) (evsC (E rfl rfl) evs0) (decimal43 i.imm hI.imm) ?_
        rintro t52 S52 rfl
        refine AWL.y rfl rfl (B rfl) (Yv.addL rfl (E rfl rfl) (E rfl rfl) (fun hg => by first | omega | (simp only [List.length_append, List.length_cons, List.length_nil]; omega))) ?_
        refine AWL.y rfl rfl (B rfl) (Yv.assign rfl (E rfl rfl)) ?_
        refine AWL.nil ?_
        refine ⟨(), trivial, (Sub.cons rfl rfl (Sub.cons rfl rfl (Sub.cons rfl (by rw [putR, if_pos h4t, List.append_assoc]; rfl) Sub.nil))), rfl⟩
       try replace h4f := of_decide_eq_false h4f
       refine AW.skip ?_
       refine ⟨(), trivial, (Sub.cons rfl rfl (Sub.cons rfl rfl (Sub.cons rfl (by rw [putR, if_neg (ne_true_of_eq_false h4f)]) Sub.nil))), rfl⟩
      ·
       rintro _ hmid
       refine AW.mid (α := Unit) (fun _ => [(1, true, .v (.pointer (some ⟨b1, 0, none⟩))), (5, true, .v (.pointer (some ⟨b5, 0, none⟩))), (7, true, sv (putR (formsF.getD j default).cond i.cond (putR (formsF.getD j default).imm i.imm (putR (formsF.getD j default).s i.s (putR (formsF.getD j default).d i.d (wordT i.kind))))))]) (fun _ => [.box b1 23 (insCells i), .box b5 45 (formCells (formsF.getD j default))]) (fun _ => True) ?_ ?_
       ·
        refine AW.rseq ?_
        refine AWL.y rfl rfl (B rfl) (Yv.fieldBox rfl fo_45_10 (E rfl rfl)) ?_
        refine AWL.y rfl rfl (B rfl) (Yv.loadBox rfl ag_3 (i := 1) rfl (E rfl rfl) rfl) ?_
        refine AWL.y rfl rfl (B rfl) (Yv.neq rfl (E rfl rfl) (E rfl rfl)) ?_
        refine AWL.nil ?_
        refine AW.cond rfl (fun h5t => ?_) (fun h5f => ?_)
        ·
         try replace h5t := of_decide_eq_true h5t
         refine AW.region ?_
         have hil := Lib.itoa_length_le i.cond hI.cond.1 hI.cond.2
         refine AWL.y rfl rfl (B rfl) (Yv.move rfl (E rfl rfl)) ?_
         refine AWL.y rfl rfl (B rfl) (Yv.addL rfl (E rfl rfl) (E rfl rfl) (fun hg => by first | omega | (simp only [List.length_append, List.length_cons, List.length_nil]; omega))) ?_
         refine AWL.y rfl rfl (B rfl) (Yv.fieldBox rfl fo_23_3 (E rfl rfl)) ?_
         refine AWL.y rfl rfl (B rfl) (Yv.loadBox rfl ag_3 (i := 0) rfl (E rfl rfl) rfl) ?_
         refine AWL.callT rfl rfl (B rfl) rfl ce_43 (E rfl rfl) (evsC (E rfl rfl) evs0) (decimal43 i.cond hI.cond) ?_
         rintro t61 S61 rfl
         refine AWL.y rfl rfl (B rfl) (Yv.addL rfl (E rfl rfl) (E rfl rfl) (fun hg => by first | omega | (simp only [List.length_append, List.length_cons, List.length_nil]; omega))) ?_
         refine AWL.y rfl rfl (B rfl) (Yv.assign rfl (E rfl rfl)) ?_
         refine AWL.nil ?_
         refine ⟨(), trivial, (Sub.cons rfl rfl (Sub.cons rfl rfl (Sub.cons rfl (by rw [putR, if_pos h5t, List.append_assoc]; rfl) Sub.nil))), rfl⟩
        try replace h5f := of_decide_eq_false h5f
        refine AW.skip ?_
        refine ⟨(), trivial, (Sub.cons rfl rfl (Sub.cons rfl rfl (Sub.cons rfl (by rw [putR, if_neg (ne_true_of_eq_false h5f)]) Sub.nil))), rfl⟩
       ·
        rintro _ hmid
        refine AW.mid (α := Unit) (fun _ => [(1, true, .v (.pointer (some ⟨b1, 0, none⟩))), (5, true, .v (.pointer (some ⟨b5, 0, none⟩))), (7, true, sv (putZ (formsF.getD j default).size i.size (putR (formsF.getD j default).cond i.cond (putR (formsF.getD j default).imm i.imm (putR (formsF.getD j default).s i.s (putR (formsF.getD j default).d i.d (wordT i.kind)))))))]) (fun _ => [.box b1 23 (insCells i), .box b5 45 (formCells (formsF.getD j default))]) (fun _ => True) ?_ ?_
        ·
         refine AW.rseq ?_
         refine AWL.y rfl rfl (B rfl) (Yv.fieldBox rfl fo_45_1 (E rfl rfl)) ?_
         refine AWL.y rfl rfl (B rfl) (Yv.loadBox rfl ag_3 (i := 1) rfl (E rfl rfl) rfl) ?_
         refine AWL.y rfl rfl (B rfl) (Yv.gtr rfl (E rfl rfl) (E rfl rfl)) ?_
         refine AWL.nil ?_
         refine AW.cond rfl (fun h6t => ?_) (fun h6f => ?_)
         ·
          try replace h6t := of_decide_eq_true h6t
          refine AW.region ?_
          have hil := Lib.itoa_length_le i.size hI.size.1 hI.size.2
          refine AWL.y rfl rfl (B rfl) (Yv.move rfl (E rfl rfl)) ?_
          refine AWL.y rfl rfl (B rfl) (Yv.addL rfl (E rfl rfl) (E rfl rfl) (fun hg => by first | omega | (simp only [List.length_append, List.length_cons, List.length_nil]; omega))) ?_
          refine AWL.y rfl rfl (B rfl) (Yv.fieldBox rfl fo_23_4 (E rfl rfl)) ?_
          refine AWL.y rfl rfl (B rfl) (Yv.loadBox rfl ag_3 (i := 0) rfl (E rfl rfl) rfl) ?_
          refine AWL.callT rfl rfl (B rfl) rfl ce_43 (E rfl rfl) (evsC (E rfl rfl) evs0) (decimal43 i.size hI.size) ?_
          rintro t70 S70 rfl
          refine AWL.y rfl rfl (B rfl) (Yv.addL rfl (E rfl rfl) (E rfl rfl) (fun hg => by first | omega | (simp only [List.length_append, List.length_cons, List.length_nil]; omega))) ?_
          refine AWL.y rfl rfl (B rfl) (Yv.assign rfl (E rfl rfl)) ?_
          refine AWL.nil ?_
          refine ⟨(), trivial, (Sub.cons rfl rfl (Sub.cons rfl rfl (Sub.cons rfl (by rw [putZ, if_pos h6t, List.append_assoc]; rfl) Sub.nil))), rfl⟩
         try replace h6f := of_decide_eq_false h6f
         refine AW.skip ?_
         refine ⟨(), trivial, (Sub.cons rfl rfl (Sub.cons rfl rfl (Sub.cons rfl (by rw [putZ, if_neg h6f]) Sub.nil))), rfl⟩
        ·
         rintro _ hmid
         refine AW.rseq ?_
         refine AWL.y rfl rfl (B rfl) (Yv.move rfl (E rfl rfl)) ?_
         refine AWL.y rfl rfl (B rfl) (Yv.assign rfl (E rfl rfl)) ?_
         refine AWL.nil ?_
         refine AW.ret (retI (.tmp rfl .nil) ?_)
         rw [← text_ref (by omega) hpre hfit]
         rfl
   try replace h0f := of_decide_eq_false h0f
   refine AW.exit ?_
   refine AW.rseq ?_
   refine AWL.y rfl rfl (B rfl) (Yv.assign rfl (E rfl rfl)) ?_
   refine AWL.nil ?_
   refine AW.ret (retI (.tmp rfl .nil) ?_)
   rw [text_none (fun k hk => hpre k (by omega))]
   rfl

theorem encode19V (i : Ins) (hv : validF i = true) : ACalls Tryd.prog 11 [insT i] [] (fun t_ S => ∃ (A' : Option Addr) (r : List UInt8), t_ = .tup [.v (.slice A' (encF i).length ((encF i).length + r.length)), .v (.int .i64 0)] ∧ S = [Ent.row A' ((encF i).length + r.length) ((encF i).length + r.length) 5 1 ((encF i ++ r).map u8)]) :=
  (encode19R i).mono fun t S h => by rwa [if_pos hv] at h
set_option maxHeartbeats 2000000 in
theorem X64Encodes3T (i : Ins) (hI : InsOk i) (hv : validF i = true) :
    ACallsG Tryd.prog tabG 3 [insT i] [] fun t_ S => t_ = .v (.bool true) := by
  have hel := encF_len i
  have heE : encE i = 0 := if_pos hv
  refine ACallsG.intro Tryd.func3 rfl Tryd.ntmps3 (Nat.le_of_ble_eq_true rfl) rfl fun X w0 hG => ?_
  refine AW.rseq ?_
  refine AWL.boxOp rfl rfl (B rfl) rfl (E rfl rfl) rfl (fun b1 => ?_)
  refine AWL.y rfl rfl (B rfl) (Yv.assign rfl (E rfl rfl)) ?_
  refine AWL.nil ?_
  refine AW.rseq ?_
  refine AWL.y rfl rfl (B rfl) (Yv.loadBoxA rfl ag_23 (i := 0) rfl (E rfl rfl) rfl rfl) ?_
  refine AWL.callT rfl rfl (B rfl) rfl ce_10 (E rfl rfl) (evsC (E rfl rfl) evs0) (refEncode_ i) ?_
  rintro t12 S12 rfl
  rw [if_pos hv, heE]
  refine AWL.y rfl rfl (B rfl) (Yv.move rfl (E rfl rfl)) ?_
  refine AWL.y rfl rfl (B rfl) (Yv.extract rfl (E rfl rfl) rfl) ?_
  refine AWL.y rfl rfl (B rfl) (Yv.extract rfl (E rfl rfl) rfl) ?_
  refine AWL.y rfl rfl (B rfl) (Yv.assign rfl (E rfl rfl)) ?_
  refine AWL.y rfl rfl (B rfl) (Yv.assign rfl (E rfl rfl)) ?_
  refine AWL.nil ?_
  refine AW.rseq ?_
  refine AWL.y rfl rfl (B rfl) (Yv.loadBoxA rfl ag_23 (i := 0) rfl (E rfl rfl) rfl rfl) ?_
  refine AWL.call rfl rfl (B rfl) rfl ce_11 (E rfl rfl) (evsC (E rfl rfl) evs0) (S1 := []) (S2 := _) rfl (encode19V i hv) ?_
  rintro t17 S17 ⟨A17, r17, rfl, rfl⟩
  refine AWL.y rfl rfl (B rfl) (Yv.move rfl (E rfl rfl)) ?_
  refine AWL.y rfl rfl (B rfl) (Yv.extract rfl (E rfl rfl) rfl) ?_
  refine AWL.y rfl rfl (B rfl) (Yv.extract rfl (E rfl rfl) rfl) ?_
  refine AWL.y rfl rfl (B rfl) (Yv.assign rfl (E rfl rfl)) ?_
  refine AWL.y rfl rfl (B rfl) (Yv.assign rfl (E rfl rfl)) ?_
  refine AWL.nil ?_
  refine AW.rseq ?_
  refine AWL.y rfl rfl (B rfl) (Yv.loadBoxA rfl ag_23 (i := 1) rfl (E rfl rfl) rfl rfl) ?_
  refine AWL.callT rfl rfl (B rfl) rfl ce_11 (E rfl rfl) (evsC (E rfl rfl) evs0) (encode19 i) ?_
  rintro t22 S22 rfl
  rw [if_pos hv]
  refine AWL.y rfl rfl (B rfl) (Yv.move rfl (E rfl rfl)) ?_
  refine AWL.y rfl rfl (B rfl) (Yv.extract rfl (E rfl rfl) rfl) ?_
  refine AWL.y rfl rfl (B rfl) (Yv.extract rfl (E rfl rfl) rfl) ?_
  refine AWL.y rfl rfl (B rfl) (Yv.assign rfl (E rfl rfl)) ?_
  refine AWL.y rfl rfl (B rfl) (Yv.assign rfl (E rfl rfl)) ?_
  refine AWL.nil ?_
  refine AW.seq ?_
  refine AW.rseq ?_
  refine AWL.y rfl rfl (B rfl) (Yv.move rfl (E rfl rfl)) ?_
  refine AWL.y rfl rfl (B rfl) (Yv.move rfl (E rfl rfl)) ?_
  refine AWL.y rfl rfl (B rfl) (Yv.neq rfl (E rfl rfl) (E rfl rfl)) ?_
  refine AWL.y rfl rfl (B rfl) (Yv.move rfl (E rfl rfl)) ?_
  refine AWL.ygF rfl rfl rfl rfl (B rfl) (Yv.move rfl (E rfl rfl)) ?_
  refine AWL.ygF rfl rfl rfl rfl (B rfl) (Yv.bytesStrFull (i := 0) rfl by_24 st_9 rfl (Eg rfl rfl id)) ?_
  refine AWL.ygF rfl rfl rfl rfl (B rfl) (Yv.move rfl (E rfl rfl)) ?_
  refine AWL.ygF rfl rfl rfl rfl (B rfl) (Yv.bytesStr rfl by_24 st_9 (Eg rfl rfl id)) ?_
  refine AWL.ygF rfl rfl rfl rfl (B rfl) (Yv.neqL rfl (Eg rfl rfl id) (Eg rfl rfl id)) ?_
  refine AWL.y rfl rfl (B rfl) (Yv.pickOr (t := .const (.bool true)) rfl (E rfl rfl) (Eg rfl rfl id)) ?_
  refine AWL.nil ?_
  refine AW.cond rfl (fun h0t => ?_) (fun h0f => ?_)
  ·
   try replace h0t := of_decide_eq_true h0t
   exfalso
   simp only [Bool.or_eq_true, Bool.and_eq_true, Bool.or_eq_false_iff, Bool.and_eq_false_iff, Bool.not_eq_true', Bool.not_eq_false', decide_eq_true_eq, decide_eq_false_iff_not, Decidable.not_not, ne_eq, not_true, Bool.true_eq_false, false_or, or_false, Bool.false_eq_true, false_and, and_false, and_true, true_and, not_false_eq_true] at h0t
  try replace h0f := of_decide_eq_false h0f
  refine AW.skip ?_
  refine AW.rowMax 0 rfl (fun hn2 hc2 hl2 => ?_)
  unfold maxLen at hc2
  refine AW.rseq ?_
  refine AWL.y rfl rfl (B rfl) (Yv.move rfl (E rfl rfl)) ?_
  refine AWL.y rfl rfl (B rfl) (Yv.move rfl (E rfl rfl)) ?_
  refine AWL.y rfl rfl (B rfl) (Yv.capV rfl so_24 (E rfl rfl)) ?_
  refine AWL.y rfl rfl (B rfl) (Yv.sliceFull (c := (encF i).length + r17.length) rfl ss_24 (E rfl rfl) (Bound.some_ (E rfl rfl) (fun _ => rfl))) ?_
  refine AWL.y rfl rfl (B rfl) (Yv.assign rfl (E rfl rfl)) ?_
  refine AWL.nil ?_
  refine AW.seq ?_
  refine AW.rseq ?_
  refine AWL.y rfl rfl (B rfl) (Yv.assign rfl (E rfl rfl)) ?_
  refine AWL.nil ?_
  refine AW.block ?_
  refine AW.loop2 (fun (k : Nat) (xs : List UInt8) => [(1, true, .v (.pointer (some ⟨b1, 0, none⟩))), (3, true, u8s (encF i)), (7, true, u8s (encF i)), (5, true, .v (.slice A17 ((encF i).length + r17.length) ((encF i).length + r17.length))), (9, true, .v (.int .i64 (k : Int)))]) (fun (k : Nat) (xs : List UInt8) => [Ent.row A17 ((encF i).length + r17.length) ((encF i).length + r17.length) 5 1 (xs.map u8), .box b1 23 (insCells i)]) (fun (k : Nat) (xs : List UInt8) => k ≤ (encF i).length + r17.length ∧ xs.length = (encF i).length + r17.length) (fun (k : Nat) (xs : List UInt8) => (encF i).length + r17.length - k) 0 ((encF i ++ r17)) ?_ ?_ ?_ ?_
  · exact ⟨Nat.zero_le _, List.length_append⟩
  · exact (Sub.cons rfl rfl (Sub.cons rfl rfl (Sub.cons rfl rfl (Sub.cons rfl rfl (Sub.cons rfl rfl Sub.nil)))))
  · rfl
  ·
   intro k xs hinv
   obtain ⟨hk, hxl⟩ := hinv
   refine AW.seq ?_
   refine AW.rseq ?_
   refine AWL.y rfl rfl (B rfl) (Yv.move rfl (E rfl rfl)) ?_
   refine AWL.y rfl rfl (B rfl) (Yv.move rfl (E rfl rfl)) ?_
   refine AWL.y rfl rfl (B rfl) (Yv.lenV rfl so_24 (E rfl rfl)) ?_
   refine AWL.y rfl rfl (B rfl) (Yv.lss rfl (E rfl rfl) (E rfl rfl)) ?_
   refine AWL.nil ?_
   refine AW.cond rfl (fun h1t => ?_) (fun h1f => ?_)
   ·
    try replace h1t := of_decide_eq_true h1t
    refine AW.skip ?_
    refine AW.seq ?_
    refine AW.block ?_
    refine AW.region ?_
    refine AWL.y rfl rfl (B rfl) (Yv.move rfl (E rfl rfl)) ?_
    refine AWL.y rfl rfl (B rfl) (Yv.move rfl (E rfl rfl)) ?_
    refine AWL.y rfl rfl (B rfl) (Yv.move rfl (E rfl rfl)) ?_
    refine AWL.y rfl rfl (B rfl) (Yv.move rfl (E rfl rfl)) ?_
    refine AWL.y rfl rfl (B rfl) (Yv.indexRow rfl ss_24 (i := 0) rfl (E rfl rfl) (E rfl rfl) (fun hg => ⟨rfl, by omega⟩)) ?_
    refine AWL.y rfl rfl (B rfl) (Yv.loadEp rfl ag_5 (i := 0) rfl (E rfl rfl) (fun hg => u8_get (by omega))) ?_
    refine AWL.y rfl rfl (B rfl) (Yv.compl rfl (E rfl rfl)) ?_
    obtain ⟨q, hq⟩ := u8_not' (xs.getD k 0)
    rw [hq]
    refine AWL.y rfl rfl (B rfl) (Yv.indexRow rfl ss_24 (i := 0) rfl (E rfl rfl) (E rfl rfl) (fun hg => ⟨rfl, by omega⟩)) ?_
    refine AWL.storeEp1 (i := 0) rfl rfl rfl ag_5 rfl (E rfl rfl) (E rfl rfl) rfl rfl (by simp; omega) ?_
    refine AWL.nil ?_
    refine AW.region ?_
    refine AWL.y rfl rfl (B rfl) (Yv.move rfl (E rfl rfl)) ?_
    refine AWL.y rfl rfl (B rfl) (Yv.addN_i64 rfl (E rfl rfl) (E rfl rfl) (fun hg => by omega)) ?_
    refine AWL.y rfl rfl (B rfl) (Yv.assign rfl (E rfl rfl)) ?_
    refine AWL.nil ?_
    refine ⟨k + 1, xs.set k q, ⟨by omega, by simpa using hxl⟩, by omega, Sub.cons rfl rfl (Sub.cons rfl rfl (Sub.cons rfl rfl (Sub.cons rfl rfl (Sub.cons rfl (by simp) Sub.nil)))), ?_⟩
    rw [List.map_set, Nat.mul_one]
    rfl
   try replace h1f := of_decide_eq_false h1f
   refine AW.exit ?_
   refine AW.dropAt 0 ?_
   refine AW.rseqQ rfl (by kernel_rfl) ?_
   refine AWQ.y rfl rfl (B rfl) (Yv.move rfl (E rfl rfl)) ?_
   refine AWQ.y rfl rfl (B rfl) (Yv.bytesStr rfl by_24 st_9 (E rfl rfl)) ?_
   refine AWQ.y rfl rfl (B rfl) (Yv.move rfl (E rfl rfl)) ?_
   refine AWQ.y rfl rfl (B rfl) (Yv.bytesStr rfl by_24 st_9 (E rfl rfl)) ?_
   refine AWQ.y rfl rfl (B rfl) (Yv.eqlL rfl (E rfl rfl) (E rfl rfl)) ?_
   refine AWQ.y rfl rfl (B rfl) (Yv.move rfl (E rfl rfl)) ?_
   refine AWQ.ygT rfl rfl rfl rfl (B rfl) (Yv.loadBoxA rfl ag_23 (i := 0) rfl (E rfl rfl) rfl rfl) ?_
   refine AWQ.callPgT rfl rfl rfl rfl (B rfl) rfl ce_12 (E rfl rfl) (evsC (Eg rfl rfl id) evs0) (fun hg => valid27 i) (fun t S h => h) ?_
   refine AWQ.ygT rfl rfl rfl rfl (B rfl) (Yv.loadBoxA rfl ag_23 (i := 0) rfl (E rfl rfl) rfl rfl) ?_
   refine AWQ.callPgT rfl rfl rfl rfl (B rfl) rfl ce_13 (E rfl rfl) (evsC (Eg rfl rfl id) evs0) (fun hg => refValid29 i) (fun t S h => h) ?_
   refine AWQ.ygT rfl rfl rfl rfl (B rfl) (Yv.eqlB rfl bo_4 (Eg rfl rfl id) (Eg rfl rfl id)) ?_
   refine AWQ.y rfl rfl (B rfl) (Yv.pickAnd rfl (E rfl rfl) (Eg rfl rfl id)) ?_
   refine AWQ.y rfl rfl (B rfl) (Yv.move rfl (E rfl rfl)) ?_
   refine AWQ.ygT rfl rfl rfl rfl (B rfl) (Yv.loadBoxA rfl ag_23 (i := 0) rfl (E rfl rfl) rfl rfl) ?_
   refine AWQ.callGPgT hG rfl rfl rfl rfl (B rfl) rfl ce_14 (E rfl rfl) (evsC (Eg rfl rfl id) evs0) (fun hg => text14G i hI) (fun t S h => h) ?_
   refine AWQ.ygT rfl rfl rfl rfl (B rfl) (Yv.loadBoxA rfl ag_23 (i := 0) rfl (E rfl rfl) rfl rfl) ?_
   refine AWQ.callPgT rfl rfl rfl rfl (B rfl) rfl ce_15 (E rfl rfl) (evsC (Eg rfl rfl id) evs0) (fun hg => refText15 i hI) (fun t S h => h) ?_
   refine AWQ.ygT rfl rfl rfl rfl (B rfl) (Yv.eqlL rfl (Eg rfl rfl id) (Eg rfl rfl id)) ?_
   refine AWQ.y rfl rfl (B rfl) (Yv.pickAnd rfl (E rfl rfl) (Eg rfl rfl id)) ?_
   refine AWQ.y rfl rfl (B rfl) (Yv.move rfl (E rfl rfl)) ?_
   refine AWQ.callPgT rfl rfl rfl rfl (B rfl) rfl ce_16 (E rfl rfl) evs0 (fun hg => known16) (fun t S h => h) ?_
   refine AWQ.y rfl rfl (B rfl) (Yv.pickAnd rfl (E rfl rfl) (Eg rfl rfl id)) ?_
   refine AWQ.y rfl rfl (B rfl) (Yv.assign rfl (E rfl rfl)) ?_
   refine AWQ.nil ?_
   refine AW.ret (retI (.tmp rfl .nil) ?_)
   show T.v (.bool _) = T.v (.bool true)
   simp

set_option maxHeartbeats 2000000 in
theorem X64Encodes3F (i : Ins) (hI : InsOk i) (hv : ¬ validF i = true) :
    ACallsG Tryd.prog tabG 3 [insT i] [] fun t_ S => t_ = .v (.bool true) := by
  have heE : encE i = 200 := if_neg hv
  refine ACallsG.intro Tryd.func3 rfl Tryd.ntmps3 (Nat.le_of_ble_eq_true rfl) rfl fun X w0 hG => ?_
  refine AW.rseq ?_
  refine AWL.boxOp rfl rfl (B rfl) rfl (E rfl rfl) rfl (fun b1 => ?_)
  refine AWL.y rfl rfl (B rfl) (Yv.assign rfl (E rfl rfl)) ?_
  refine AWL.nil ?_
  refine AW.rseq ?_
  refine AWL.y rfl rfl (B rfl) (Yv.loadBoxA rfl ag_23 (i := 0) rfl (E rfl rfl) rfl rfl) ?_
  refine AWL.callT rfl rfl (B rfl) rfl ce_10 (E rfl rfl) (evsC (E rfl rfl) evs0) (refEncode_ i) ?_
  rintro t12 S12 rfl
  rw [if_neg hv, heE]
  refine AWL.y rfl rfl (B rfl) (Yv.move rfl (E rfl rfl)) ?_
  refine AWL.y rfl rfl (B rfl) (Yv.extract rfl (E rfl rfl) rfl) ?_
  refine AWL.y rfl rfl (B rfl) (Yv.extract rfl (E rfl rfl) rfl) ?_
  refine AWL.y rfl rfl (B rfl) (Yv.assign rfl (E rfl rfl)) ?_
  refine AWL.y rfl rfl (B rfl) (Yv.assign rfl (E rfl rfl)) ?_
  refine AWL.nil ?_
  refine AW.rseq ?_
  refine AWL.y rfl rfl (B rfl) (Yv.loadBoxA rfl ag_23 (i := 0) rfl (E rfl rfl) rfl rfl) ?_
  refine AWL.callT rfl rfl (B rfl) rfl ce_11 (E rfl rfl) (evsC (E rfl rfl) evs0) (encode19 i) ?_
  rintro t17 S17 rfl
  rw [if_neg hv]
  refine AWL.y rfl rfl (B rfl) (Yv.move rfl (E rfl rfl)) ?_
  refine AWL.y rfl rfl (B rfl) (Yv.extract rfl (E rfl rfl) rfl) ?_
  refine AWL.y rfl rfl (B rfl) (Yv.extract rfl (E rfl rfl) rfl) ?_
  refine AWL.y rfl rfl (B rfl) (Yv.assign rfl (E rfl rfl)) ?_
  refine AWL.y rfl rfl (B rfl) (Yv.assign rfl (E rfl rfl)) ?_
  refine AWL.nil ?_
  refine AW.rseq ?_
  refine AWL.y rfl rfl (B rfl) (Yv.loadBoxA rfl ag_23 (i := 0) rfl (E rfl rfl) rfl rfl) ?_
  refine AWL.callT rfl rfl (B rfl) rfl ce_11 (E rfl rfl) (evsC (E rfl rfl) evs0) (encode19 i) ?_
  rintro t22 S22 rfl
  rw [if_neg hv]
  refine AWL.y rfl rfl (B rfl) (Yv.move rfl (E rfl rfl)) ?_
  refine AWL.y rfl rfl (B rfl) (Yv.extract rfl (E rfl rfl) rfl) ?_
  refine AWL.y rfl rfl (B rfl) (Yv.extract rfl (E rfl rfl) rfl) ?_
  refine AWL.y rfl rfl (B rfl) (Yv.assign rfl (E rfl rfl)) ?_
  refine AWL.y rfl rfl (B rfl) (Yv.assign rfl (E rfl rfl)) ?_
  refine AWL.nil ?_
  refine AW.seq ?_
  refine AW.rseq ?_
  refine AWL.y rfl rfl (B rfl) (Yv.move rfl (E rfl rfl)) ?_
  refine AWL.y rfl rfl (B rfl) (Yv.move rfl (E rfl rfl)) ?_
  refine AWL.y rfl rfl (B rfl) (Yv.neq rfl (E rfl rfl) (E rfl rfl)) ?_
  refine AWL.y rfl rfl (B rfl) (Yv.move rfl (E rfl rfl)) ?_
  refine AWL.ygF rfl rfl rfl rfl (B rfl) (Yv.move rfl (E rfl rfl)) ?_
  refine AWL.retype (k := 29) (t' := u8s []) rfl (nil_sl (by decide)) ?_
  refine AWL.ygF rfl rfl rfl rfl (B rfl) (Yv.bytesStr rfl by_24 st_9 (Eg rfl rfl id)) ?_
  refine AWL.ygF rfl rfl rfl rfl (B rfl) (Yv.move rfl (E rfl rfl)) ?_
  refine AWL.ygF rfl rfl rfl rfl (B rfl) (Yv.bytesStr rfl by_24 st_9 (Eg rfl rfl id)) ?_
  refine AWL.ygF rfl rfl rfl rfl (B rfl) (Yv.neqL rfl (Eg rfl rfl id) (Eg rfl rfl id)) ?_
  refine AWL.y rfl rfl (B rfl) (Yv.pickOr (t := .const (.bool true)) rfl (E rfl rfl) (Eg rfl rfl id)) ?_
  refine AWL.nil ?_
  refine AW.cond rfl (fun h0t => ?_) (fun h0f => ?_)
  ·
   try replace h0t := of_decide_eq_true h0t
   exfalso
   simp only [Bool.or_eq_true, Bool.and_eq_true, Bool.or_eq_false_iff, Bool.and_eq_false_iff, Bool.not_eq_true', Bool.not_eq_false', decide_eq_true_eq, decide_eq_false_iff_not, Decidable.not_not, ne_eq, not_true, Bool.true_eq_false, false_or, or_false, Bool.false_eq_true, false_and, and_false, and_true, true_and, not_false_eq_true] at h0t
  try replace h0f := of_decide_eq_false h0f
  refine AW.skip ?_
  refine AW.rseq ?_
  refine AWL.y rfl rfl (B rfl) (Yv.move rfl (E rfl rfl)) ?_
  refine AWL.y rfl rfl (B rfl) (Yv.move rfl (E rfl rfl)) ?_
  refine AWL.y rfl rfl (B rfl) (Yv.capV rfl so_24 (E rfl rfl)) ?_
  refine AWL.y rfl rfl (B rfl) (Yv.sliceFull (c := 0) rfl ss_24 (E rfl rfl) (Bound.some_ (E rfl rfl) (fun _ => rfl))) ?_
  refine AWL.y rfl rfl (B rfl) (Yv.assign rfl (E rfl rfl)) ?_
  refine AWL.nil ?_
  refine AW.seq ?_
  refine AW.rseq ?_
  refine AWL.y rfl rfl (B rfl) (Yv.assign rfl (E rfl rfl)) ?_
  refine AWL.nil ?_
  refine AW.block ?_
  refine AW.loop (fun (k : Nat) => [(1, true, .v (.pointer (some ⟨b1, 0, none⟩))), (3, true, u8s []), (7, true, .v (.slice none 0 0)), (5, true, .v (.slice none 0 0)), (9, true, .v (.int .i64 0))]) (fun (k : Nat) => [.box b1 23 (insCells i)]) (fun (k : Nat) => True) (fun (k : Nat) => 0) 0 ?_ ?_ ?_ ?_
  · trivial
  · exact (Sub.cons rfl rfl (Sub.cons rfl rfl (Sub.cons rfl rfl (Sub.cons rfl rfl (Sub.cons rfl rfl Sub.nil)))))
  · rfl
  ·
   intro k hinv
   refine AW.seq ?_
   refine AW.rseq ?_
   refine AWL.y rfl rfl (B rfl) (Yv.move rfl (E rfl rfl)) ?_
   refine AWL.y rfl rfl (B rfl) (Yv.move rfl (E rfl rfl)) ?_
   refine AWL.y rfl rfl (B rfl) (Yv.lenV rfl so_24 (E rfl rfl)) ?_
   refine AWL.y rfl rfl (B rfl) (Yv.lss rfl (E rfl rfl) (E rfl rfl)) ?_
   refine AWL.nil ?_
   refine AW.cond rfl (fun h1t => ?_) (fun h1f => ?_)
   ·
    try replace h1t := of_decide_eq_true h1t
    exact absurd h1t (by decide)
   try replace h1f := of_decide_eq_false h1f
   refine AW.exit ?_
   refine AW.rseqQ rfl (by kernel_rfl) ?_
   refine AWQ.y rfl rfl (B rfl) (Yv.move rfl (E rfl rfl)) ?_
   refine AWQ.retype (k := 53) (t' := u8s []) rfl (nil_sl (by decide)) ?_
   refine AWQ.y rfl rfl (B rfl) (Yv.bytesStr rfl by_24 st_9 (E rfl rfl)) ?_
   refine AWQ.y rfl rfl (B rfl) (Yv.move rfl (E rfl rfl)) ?_
   refine AWQ.y rfl rfl (B rfl) (Yv.bytesStr rfl by_24 st_9 (E rfl rfl)) ?_
   refine AWQ.y rfl rfl (B rfl) (Yv.eqlL rfl (E rfl rfl) (E rfl rfl)) ?_
   refine AWQ.y rfl rfl (B rfl) (Yv.move rfl (E rfl rfl)) ?_
   refine AWQ.ygT rfl rfl rfl rfl (B rfl) (Yv.loadBoxA rfl ag_23 (i := 0) rfl (E rfl rfl) rfl rfl) ?_
   refine AWQ.callPgT rfl rfl rfl rfl (B rfl) rfl ce_12 (E rfl rfl) (evsC (Eg rfl rfl id) evs0) (fun hg => valid27 i) (fun t S h => h) ?_
   refine AWQ.ygT rfl rfl rfl rfl (B rfl) (Yv.loadBoxA rfl ag_23 (i := 0) rfl (E rfl rfl) rfl rfl) ?_
   refine AWQ.callPgT rfl rfl rfl rfl (B rfl) rfl ce_13 (E rfl rfl) (evsC (Eg rfl rfl id) evs0) (fun hg => refValid29 i) (fun t S h => h) ?_
   refine AWQ.ygT rfl rfl rfl rfl (B rfl) (Yv.eqlB rfl bo_4 (Eg rfl rfl id) (Eg rfl rfl id)) ?_
   refine AWQ.y rfl rfl (B rfl) (Yv.pickAnd rfl (E rfl rfl) (Eg rfl rfl id)) ?_
   refine AWQ.y rfl rfl (B rfl) (Yv.move rfl (E rfl rfl)) ?_
   refine AWQ.ygT rfl rfl rfl rfl (B rfl) (Yv.loadBoxA rfl ag_23 (i := 0) rfl (E rfl rfl) rfl rfl) ?_
   refine AWQ.callGPgT hG rfl rfl rfl rfl (B rfl) rfl ce_14 (E rfl rfl) (evsC (Eg rfl rfl id) evs0) (fun hg => text14G i hI) (fun t S h => h) ?_
   refine AWQ.ygT rfl rfl rfl rfl (B rfl) (Yv.loadBoxA rfl ag_23 (i := 0) rfl (E rfl rfl) rfl rfl) ?_
   refine AWQ.callPgT rfl rfl rfl rfl (B rfl) rfl ce_15 (E rfl rfl) (evsC (Eg rfl rfl id) evs0) (fun hg => refText15 i hI) (fun t S h => h) ?_
   refine AWQ.ygT rfl rfl rfl rfl (B rfl) (Yv.eqlL rfl (Eg rfl rfl id) (Eg rfl rfl id)) ?_
   refine AWQ.y rfl rfl (B rfl) (Yv.pickAnd rfl (E rfl rfl) (Eg rfl rfl id)) ?_
   refine AWQ.y rfl rfl (B rfl) (Yv.move rfl (E rfl rfl)) ?_
   refine AWQ.callPgT rfl rfl rfl rfl (B rfl) rfl ce_16 (E rfl rfl) evs0 (fun hg => known16) (fun t S h => h) ?_
   refine AWQ.y rfl rfl (B rfl) (Yv.pickAnd rfl (E rfl rfl) (Eg rfl rfl id)) ?_
   refine AWQ.y rfl rfl (B rfl) (Yv.assign rfl (E rfl rfl)) ?_
   refine AWQ.nil ?_
   refine AW.ret (retI (.tmp rfl .nil) ?_)
   show T.v (.bool _) = T.v (.bool true)
   simp

end Go.Proofs.YtjndpakhmgapjaaDoor

namespace Go.Proofs.YtjndpakhmgapjaaDoor
open Go.ChangeShapes Go.WideShapes Go.ChangeAt Go Go.RowKit
theorem bulk_one {H : Type} (d : DataW H) : 1 ≤ Rows.uptoBulk d := by
  cases d with
  | lit l => cases l <;> simp [Rows.uptoBulk]
  | _ => simp [Rows.uptoBulk]
theorem bulk_len {H : Type} (l : List (DataW H)) : l.length ≤ Rows.uptoBulkAll l := by
  induction l with
  | nil => simp [Rows.uptoBulkAll]
  | cons x r ih => have := bulk_one x; simp only [Rows.uptoBulkAll, List.length_cons]; omega
theorem bulk_append {H : Type} (l r : List (DataW H)) : Rows.uptoBulkAll (l ++ r) = Rows.uptoBulkAll l + Rows.uptoBulkAll r := by
  induction l with
  | nil => simp [Rows.uptoBulkAll]
  | cons x s ih => simp only [Rows.uptoBulkAll, List.cons_append, ih]; omega
theorem bound {H : Type} {l : List (DataW H)} (hk : Rows.uptoSmall H l = true) : Rows.uptoBulkAll l ≤ 1048576 := by
  simpa [Rows.uptoSmall] using hk
theorem cell_lt {w : World} {a : Addr} {v : Value} (h : w.cell? a = some v) : a.block < w.heap.size := by
  rcases Nat.lt_or_ge a.block w.heap.size with hn | hn
  · exact hn
  · simp [World.cell?, Array.getElem?_eq_none hn] at h
/-- A type opened: its cells read as the tree of some plain datum. -/
structure Opens (P : Program) (t : TypeId) {X : Type} (k : Nat) (cells : X → List T) (bulk : X → Nat) (ok : X → Prop) : Prop where
  size : P.cellsOf t = k
  one : ∀ {H : Type} {enc : TypeId × Value → H} {w : World} {base : Nat} {spare : Nat → Bool} {held : Bool} {fuel : Nat} {cs : List Value} {x : DataW H × List MemPlace},
    DataW.trod enc P w base spare held fuel t cs = some x → ∃ a, ok a ∧ VReps w [] (cells a) cs ∧ cs.length = k ∧ bulk a ≤ Rows.uptoBulk x.1
theorem Opens.turn {P : Program} {t : TypeId} {X Y : Type} {k : Nat} {cells : X → List T} {cells' : Y → List T} {bulk : X → Nat} {bulk' : Y → Nat} {ok : X → Prop} {ok' : Y → Prop} (h : Opens P t k cells bulk ok) (g : X → Y)
    (h1 : ∀ a, ok a → cells' (g a) = cells a ∧ bulk' (g a) ≤ bulk a ∧ ok' (g a)) : Opens P t k cells' bulk' ok' :=
  ⟨h.size, fun e => by
    obtain ⟨a, h2, h3, h4, h5⟩ := h.one e
    obtain ⟨h6, h7, h8⟩ := h1 a h2
    exact ⟨g a, h8, h6 ▸ h3, h4, Nat.le_trans h7 h5⟩⟩
theorem VReps.single {w : World} {L : List Nat} {t : T} {u : Value} (h : VRep w L t u) (h1 : u.oneCell' = true) : VReps w L [t] [u] := .cons h h1 .nil
theorem opens_int {P : Program} {t : TypeId} {k : IntKind} (ht : P.underlying t = some (.int k)) (hs : P.cellsOf t = 1) : Opens P t 1 (fun z : Int => [.v (.int k z)]) (fun _ => 1) (fun z => (Lit.int k z).wf = true) :=
  ⟨hs, fun e => by
    obtain ⟨n, rfl, rfl, h⟩ := DataW.trod_int ht e
    exact ⟨n, h, .single (.v _) rfl, rfl, bulk_one _⟩⟩
theorem opens_bool {P : Program} {t : TypeId} (ht : P.underlying t = some .bool) (hs : P.cellsOf t = 1) : Opens P t 1 (fun b : Bool => [.v (.bool b)]) (fun _ => 1) (fun _ => True) :=
  ⟨hs, fun e => by
    obtain ⟨b, rfl, rfl⟩ := DataW.trod_bool ht e
    exact ⟨b, trivial, .single (.v _) rfl, rfl, bulk_one _⟩⟩
theorem opens_string {P : Program} {t : TypeId} (ht : P.underlying t = some .string) (hs : P.cellsOf t = 1) : Opens P t 1 (fun l : List UInt8 => [.v (.string ⟨l.toArray⟩)]) (fun l => l.length + 1) (fun l => l.length ≤ maxLen) :=
  ⟨hs, fun e => by
    obtain ⟨s, rfl, rfl, h⟩ := DataW.trod_string ht e
    exact ⟨s.data.toList, by simpa using h, .single (.v _) rfl, rfl, by simp [Rows.uptoBulk]⟩⟩
/-- The fields from a place on. -/
structure OpensF (P : Program) (fs : List Field) (o : Nat) {X : Type} (k : Nat) (cells : X → List T) (bulk : X → Nat) (ok : X → Prop) : Prop where
  all : ∀ {H : Type} {enc : TypeId × Value → H} {w : World} {base : Nat} {spare : Nat → Bool} {held : Bool} {n : Nat} {cs : List Value} {ys : List (DataW H × List MemPlace)},
    ys.length = fs.length → cs.length = o + k → (∀ (i : Nat) (f : Field), fs[i]? = some f → DataW.trod enc P w base spare held n f.type ((cs.drop f.offset).take (P.cellsOf f.type)) = ys[i]?) →
      ∃ a, ok a ∧ VReps w [] (cells a) (cs.drop o) ∧ bulk a ≤ Rows.uptoBulkAll (ys.map (·.1))
theorem opensF_nil {P : Program} {o : Nat} : OpensF P [] o 0 (fun _ : Unit => []) (fun _ => 0) (fun _ => True) :=
  ⟨fun {H enc w base spare held n cs ys} h1 h2 _ => ⟨(), trivial, by rw [List.drop_of_length_le (by omega)]; exact .nil, Nat.zero_le _⟩⟩
theorem opensF_cons {P : Program} {f : Field} {fs : List Field} {o k m : Nat} {X Y : Type} {cells : X → List T} {cells' : Y → List T} {bulk : X → Nat} {bulk' : Y → Nat} {ok : X → Prop} {ok' : Y → Prop} (h0 : Opens P f.type k cells bulk ok) (ho : f.offset = o)
    (h : OpensF P fs (o + k) m cells' bulk' ok') : OpensF P (f :: fs) o (k + m) (fun a : X × Y => cells a.1 ++ cells' a.2) (fun a => bulk a.1 + bulk' a.2) (fun a => ok a.1 ∧ ok' a.2) :=
  ⟨fun {H enc w base spare held n cs ys} h1 h2 h3 => by
    match ys, h1 with
    | y :: ys, h1 =>
      have e := h3 0 f rfl
      rw [ho, h0.size] at e
      simp only [List.getElem?_cons_zero] at e
      obtain ⟨a, q1, q2, q3, q4⟩ := h0.one e
      obtain ⟨b, r1, r2, r3⟩ := h.all (ys := ys) (cs := cs) (by simpa using h1) (by omega) (fun i g hg => by simpa using h3 (i + 1) g (by simpa using hg))
      refine ⟨(a, b), ⟨q1, r1⟩, ?_, by simp only [List.map_cons, Rows.uptoBulkAll]; omega⟩
      rw [← List.drop_drop] at r2
      have := q2.append r2
      rwa [List.take_append_drop] at this⟩
theorem opens_struct {P : Program} {t : TypeId} {fs : Array Field} {X : Type} {k : Nat} {cells : X → List T} {bulk : X → Nat} {ok : X → Prop} (ht : P.underlying t = some (.struct fs)) (hs : P.cellsOf t = k) (h : OpensF P fs.toList 0 k cells bulk ok) :
    Opens P t k cells (fun a => bulk a + 1) ok :=
  ⟨hs, fun e => by
    obtain ⟨xs, n, _, rfl, hl, hlen, hf⟩ := DataW.trod_struct ht e
    obtain ⟨a, h1, h2, h3⟩ := h.all (by simpa using hlen) (by omega) (fun i f hi => hf i f (by simpa using hi))
    exact ⟨a, h1, by simpa using h2, by omega, by simp only [Rows.uptoBulk]; omega⟩⟩
def sumBulk {X : Type} (bulk : X → Nat) (l : List X) : Nat := (l.map bulk).sum
theorem opens_slice {P : Program} {t e : TypeId} {X : Type} {k : Nat} {cells : X → List T} {bulk : X → Nat} {ok : X → Prop} (ht : P.underlying t = some (.slice e)) (hs : P.cellsOf t = 1) (hk : 0 < k) (h : Opens P e k cells bulk ok) :
    Opens P t 1 (fun l : List X => [.sl k (l.flatMap cells)]) (fun l => sumBulk bulk l + 1) (fun l => (∀ a ∈ l, ok a) ∧ l.length ≤ maxLen) :=
  ⟨hs, fun {H enc w base spare held fuel cs x} ex => by
    rcases Go.Deep.open_slice ht ex with ⟨rfl, rfl⟩ | ⟨a, len, cap, m, n, D, Pl, rfl, hb, hl, hm, hmm, rfl, hx⟩
    · exact ⟨[], ⟨fun a ha => (by cases ha), Nat.zero_le _⟩, .single (.sl0 (Nat.zero_le _)) rfl, rfl, by simp [sumBulk, Rows.uptoBulk]⟩
    · have hlm : len ≤ m := by rw [hmm]; split <;> omega
      rw [h.size] at hx
      have key : ∀ q, q ≤ len → ∃ (l : List X) (us : List Value), l.length = q ∧ us.length = q * k ∧ VReps w [] (l.flatMap cells) us ∧ (∀ j u, us[j]? = some u → w.cell? (a.add j) = some u) ∧ (∀ a ∈ l, ok a) ∧
          sumBulk bulk l ≤ Rows.uptoBulkAll ((List.range q).map D) := by
        intro q
        induction q with
        | zero => exact fun _ => ⟨[], [], rfl, by simp, .nil, fun j u hu => by simp at hu, fun a ha => (by cases ha), by simp [sumBulk]⟩
        | succ q ih =>
          intro hq
          obtain ⟨l, us, h1, h2, h3, h4, h5, h6⟩ := ih (by omega)
          obtain ⟨cs', h7, h8⟩ := hx q (by omega)
          obtain ⟨a', h9, h10, h11, h12⟩ := h.one h8
          obtain ⟨_, _, h13⟩ := World.cells?_some h7
          refine ⟨l ++ [a'], us ++ cs', by simp [h1], ?_, ?_, ?_, ?_, ?_⟩
          · rw [List.length_append, h2, h11, Nat.succ_mul]
          · rw [List.flatMap_append]
            simpa using h3.append h10
          · intro j u hu
            by_cases hj : j < us.length
            · rw [List.getElem?_append_left hj] at hu
              exact h4 j u hu
            · rw [List.getElem?_append_right (by omega)] at hu
              have hjl := (List.getElem?_eq_some_iff.1 hu).1
              have := h13 (j - us.length) (by omega)
              rw [add_add', hu] at this
              rw [← this]
              congr 2
              omega
          · intro y hy
            rcases List.mem_append.1 hy with hy | hy
            · exact h5 y hy
            · rcases List.mem_singleton.1 hy with rfl
              exact h9
          · rw [List.range_succ, List.map_append, bulk_append]
            simp only [sumBulk, List.map_append, List.sum_append, List.map_cons, List.map_nil, List.sum_cons, List.sum_nil, Rows.uptoBulkAll] at h6 h12 ⊢
            omega
      obtain ⟨l, us, h1, h2, h3, h4, h5, h6⟩ := key len (Nat.le_refl _)
      refine ⟨l, ⟨h5, by omega⟩, .single ?_ rfl, rfl, by simp only [Rows.uptoBulk]; omega⟩
      rcases Nat.eq_zero_or_pos len with rfl | hpos
      · rw [List.eq_nil_of_length_eq_zero h1]
        exact .sl0 hm
      · have hlu := h3.len
        have hup : 0 < us.length := by rw [h2]; exact Nat.mul_pos hpos hk
        have hc0 := h4 0 _ (List.getElem?_eq_getElem hup)
        exact .sl hpos (by rw [hlu, h2]) hlu hl hm (by have := cell_lt hc0; rwa [block_add] at this) (by simp) h4 h3.at_ h3.one⟩
/-- A byte as a number. -/
def byteOfInt (z : Int) : UInt8 := UInt8.ofNat z.toNat
theorem byteOfInt_back {z : Int} (h : (Lit.int .u8 z).wf = true) : ((byteOfInt z).toNat : Int) = z := by
  have hx : 0 ≤ z ∧ z ≤ 255 := by simpa [Lit.wf, IntKind.min, IntKind.max, IntKind.signed, IntKind.bits] using h
  unfold byteOfInt
  rw [UInt8.toNat_ofNat']
  omega
theorem sumBulk_one {X : Type} : ∀ (l : List X), sumBulk (fun _ => 1) l = l.length
  | [] => rfl
  | _ :: r => by have := sumBulk_one r; simp only [sumBulk, List.map_cons, List.sum_cons, List.length_cons] at this ⊢; omega
theorem flat_one {X : Type} (f : X → T) : ∀ (l : List X), l.flatMap (fun a => [f a]) = l.map f
  | [] => rfl
  | _ :: r => by simp [flat_one f r]
theorem opens_bytes {P : Program} {t e : TypeId} (ht : P.underlying t = some (.slice e)) (hs : P.cellsOf t = 1) (he : P.underlying e = some (.int .u8)) (hs' : P.cellsOf e = 1) :
    Opens P t 1 (fun l : List UInt8 => [.sl 1 (l.map fun b => .v (.int .u8 b.toNat))]) (fun l => l.length + 1) (fun l => l.length ≤ maxLen) :=
  (opens_slice ht hs (by decide) (opens_int he hs')).turn (fun l => l.map byteOfInt) (fun l hl => ⟨by
      rw [flat_one, List.map_map]
      congr 2
      refine List.map_congr_left fun z hz => ?_
      simp only [Function.comp]
      rw [byteOfInt_back (hl.1 z hz)], by simp [sumBulk_one], by simpa using hl.2⟩)
/-- An argument of a struct's type. -/
theorem Opens.agg {P : Program} {t : TypeId} {fs : Array Field} {X : Type} {k : Nat} {cells : X → List T} {bulk : X → Nat} {ok : X → Prop} (h : Opens P t k cells bulk ok) (ht : P.underlying t = some (.struct fs))
    {H : Type} {enc : TypeId × Value → H} {w : World} {base b0 : Nat} {r : Reach} {spare : Nat → Bool} {held : Bool} {v : Value} {d : DataW H} {p : List MemPlace} (hv : Value.okWide P w r b0 t v) (e : DataW.Trod enc P w base spare held t v d p) :
    ∃ a, ok a ∧ VRep w [] (.agg (cells a)) v ∧ bulk a ≤ Rows.uptoBulk d := by
  obtain ⟨cs, rfl, hsz⟩ := okWide_struct ht hv
  obtain ⟨fuel, hf⟩ := e
  obtain ⟨a, h1, h2, h3, h4⟩ := h.one hf
  simp only [Value.cells] at h2 h3
  exact ⟨a, h1, by
    have := VRep.agg h2.len h2.at_ h2.one
    simpa using this, h4⟩
/-- An argument of a slice's type. -/
theorem Opens.row {P : Program} {t e : TypeId} {X : Type} {cell : X → T} {bulk : X → Nat} {ok : X → Prop} (h : Opens P t 1 (fun a => [cell a]) bulk ok) (ht : P.underlying t = some (.slice e))
    {H : Type} {enc : TypeId × Value → H} {w : World} {base b0 : Nat} {r : Reach} {spare : Nat → Bool} {held : Bool} {v : Value} {d : DataW H} {p : List MemPlace} (hv : Value.okWide P w r b0 t v) (e : DataW.Trod enc P w base spare held t v d p) :
    ∃ a, ok a ∧ VRep w [] (cell a) v ∧ bulk a ≤ Rows.uptoBulk d := by
  obtain ⟨A, l, c, rfl⟩ := okWide_slice ht hv
  obtain ⟨fuel, hf⟩ := e
  obtain ⟨a, h1, h2, h3, h4⟩ := h.one hf
  simp only [Value.cells] at h2 h3
  exact ⟨a, h1, h2.at_ 0 _ _ rfl rfl, h4⟩
end Go.Proofs.YtjndpakhmgapjaaDoor

namespace Go.Proofs.YtjndpakhmgapjaaDoor
open Go.ChangeShapes Go.WideShapes Go.ChangeAt Go Go.RowKit
set_option linter.unusedSimpArgs false
set_option linter.unnecessarySimpa false
theorem laidOut : laidOutB Tryd.prog = true := by kernel_rfl
theorem opens3 : Opens Tryd.prog 3 1 (fun z : Int => [.v (.int .i64 z)]) (fun _ => 1) (fun z => (Lit.int .i64 z).wf = true) := opens_int Tryd.underlying3 (by kernel_rfl)
theorem opens2 : Opens Tryd.prog 2 1 (fun z : Int => [.v (.int .i64 z)]) (fun _ => 1) (fun z => (Lit.int .i64 z).wf = true) := opens_int Tryd.underlying2 (by kernel_rfl)
theorem int_i64 {z : Int} (h : (Lit.int .i64 z).wf = true) : I64 z := by simpa [Lit.wf, IntKind.min, IntKind.max, IntKind.signed, IntKind.bits, I64] using h
theorem opens23 : Opens Tryd.prog 23 6 insCells (fun _ => 1) InsOk :=
  (opens_struct Tryd.underlying23 (by kernel_rfl) (opensF_cons opens3 rfl (opensF_cons opens3 rfl (opensF_cons opens3 rfl (opensF_cons opens3 rfl (opensF_cons opens3 rfl (opensF_cons opens2 rfl opensF_nil))))))).turn (fun a => (⟨a.1, a.2.1, a.2.2.1, a.2.2.2.1, a.2.2.2.2.1, a.2.2.2.2.2.1⟩ : Ins))
    (fun a h => ⟨rfl, by omega, by
      obtain ⟨h1, h2, h3, h4, h5, h6, _⟩ := h
      exact ⟨int_i64 h1, int_i64 h2, int_i64 h3, int_i64 h4, int_i64 h5, int_i64 h6⟩⟩)
theorem opens36 : Opens Tryd.prog 36 1 (fun l : List Ins => [inssT l]) (fun l => sumBulk (fun _ => 1) l + 1) (fun l => (∀ a ∈ l, InsOk a) ∧ l.length ≤ maxLen) := opens_slice Tryd.underlying36 (by kernel_rfl) (by decide) opens23
theorem opens24 : Opens Tryd.prog 24 1 (fun l : List UInt8 => [u8s l]) (fun l => l.length + 1) (fun l => l.length ≤ maxLen) :=
  (opens_bytes Tryd.underlying24 (by kernel_rfl) Tryd.underlying5 (by kernel_rfl)).turn id (fun l hl => ⟨rfl, Nat.le_refl _, hl⟩)
section
variable {H : Type} {enc : TypeId × Value → H} {w : World} {base b0 : Nat} {spare : Nat → Bool} {held : Bool} {v : Value} {d : DataW H} {p : List MemPlace}
set_option maxRecDepth 100000 in
theorem open_inss (hv : Value.okWide Tryd.prog w .any b0 36 v) (e : DataW.Trod enc Tryd.prog w base spare held 36 v d p) : ∃ l : List Ins, VRep w [] (inssT l) v ∧ l.length ≤ Rows.uptoBulk d ∧ ∀ a ∈ l, InsOk a := by
  obtain ⟨l, h1, h2, h3⟩ := opens36.row Tryd.underlying36 hv e
  rw [sumBulk_one] at h3
  exact ⟨l, h2, by omega, h1.1⟩
set_option maxRecDepth 100000 in
theorem open_ins (hv : Value.okWide Tryd.prog w .any b0 23 v) (e : DataW.Trod enc Tryd.prog w base spare held 23 v d p) : ∃ i : Ins, VRep w [] (insT i) v ∧ InsOk i := by
  obtain ⟨i, h1, h2, _⟩ := opens23.agg Tryd.underlying23 hv e
  exact ⟨i, h2, h1⟩
set_option maxRecDepth 100000 in
theorem open_bytes (hv : Value.okWide Tryd.prog w .any b0 24 v) (e : DataW.Trod enc Tryd.prog w base spare held 24 v d p) : ∃ l : List UInt8, VRep w [] (u8s l) v ∧ l.length ≤ Rows.uptoBulk d := by
  obtain ⟨l, _, h2, h3⟩ := opens24.row Tryd.underlying24 hv e
  exact ⟨l, h2, by omega⟩
end
end Go.Proofs.YtjndpakhmgapjaaDoor
