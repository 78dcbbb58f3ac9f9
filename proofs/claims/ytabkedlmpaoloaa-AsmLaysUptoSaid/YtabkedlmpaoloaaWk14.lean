/-
  CONTRACTS of the document for instructions: the bytes of a form; walked by program.
-/
import Derived.Test.YtabkedlmpaoloaaWk13
import Derived.Test.YtabkedlmpaoloaaAw22
namespace Go.Proofs.Ytabkedlmpaoloaa
open Go Go.RowKit
set_option linter.unusedVariables false
set_option linter.unnecessarySimpa false
set_option linter.unusedSimpArgs false

set_option maxHeartbeats 4000000 in
theorem bytes62 (f : FormF) (i : Ins) (hf : FormOk f) (hd : 0 ≤ i.d ∧ i.d ≤ 15) (hs : 0 ≤ i.s ∧ i.s ≤ 15) (hc : 0 ≤ i.cond ∧ i.cond ≤ 15) :
    ACalls Try.prog 62 [formT f, insT i] [] fun t_ S => t_ = u8s (bytesF f i) := by
  have hu := at_range (f := f) hd hs 1
  have hb2 := at_range (f := f) hd hs 2
  have hb3 := at_range (f := f) hd hs 3
  obtain ⟨hf1, hf2, hf3, hf4, hf5, hf6⟩ := hf
  obtain ⟨hl0, hl1, hl2, hl3, hl4⟩ := bits_len f i
  have hbase : baseF f i = atF f i 2 + atF f i 3 := rfl
  have hupf : upF f i = atF f i 1 := rfl
  have hrx : 0 ≤ regX f i ∧ regX f i ≤ 7 := by
    unfold regX
    split <;> omega
  have hsz := sizeR_le f.imm
  refine ACalls.intro Try.func62 rfl Try.ntmps62 (Nat.le_of_ble_eq_true rfl) rfl fun X w0 => ?_
  refine AW.rseq ?_
  refine AWL.boxOp rfl rfl (B rfl) rfl (E rfl rfl) rfl (fun b2 => ?_)
  refine AWL.boxOp rfl rfl (B rfl) rfl (E rfl rfl) rfl (fun b3 => ?_)
  refine AWL.y rfl rfl (B rfl) (Yv.assign rfl (E rfl rfl)) ?_
  refine AWL.nil ?_
  refine AW.rseq ?_
  refine AWL.y rfl rfl (B rfl) (Yv.assign rfl (E rfl rfl)) ?_
  refine AWL.nil ?_
  refine AW.rowNil 5 1 ?_
  refine AW.mid (α := Option Addr × Nat) (fun q => [(2, true, .v (.pointer (some ⟨b2, 0, none⟩))), (3, true, .v (.pointer (some ⟨b3, 0, none⟩))), (5, true, .v (.slice q.1 (r0 f).length q.2))]) (fun q => [.box b2 88 (formCells f), .box b3 30 (insCells i), Ent.row q.1 (r0 f).length q.2 5 1 ((r0 f).map u8)]) (fun _ => True) ?_ ?_
  ·
   refine AW.rseq ?_
   refine AWL.y rfl rfl (B rfl) (Yv.fieldBox rfl fo_88_2 (E rfl rfl)) ?_
   refine AWL.y rfl rfl (B rfl) (Yv.loadBox rfl ag_3 (i := 0) rfl (E rfl rfl) rfl) ?_
   refine AWL.y rfl rfl (B rfl) (Yv.gtr rfl (E rfl rfl) (E rfl rfl)) ?_
   refine AWL.nil ?_
   refine AW.cond rfl (fun h0t => ?_) (fun h0f => ?_)
   ·
    try replace h0t := of_decide_eq_true h0t
    refine AW.region ?_
    refine AWL.y rfl rfl (B rfl) (Yv.move rfl (E rfl rfl)) ?_
    refine AWL.y rfl rfl (B rfl) (Yv.fieldBox rfl fo_88_2 (E rfl rfl)) ?_
    refine AWL.y rfl rfl (B rfl) (Yv.loadBox rfl ag_3 (i := 0) rfl (E rfl rfl) rfl) ?_
    refine AWL.y rfl rfl (B rfl) (Yv.conv rfl Try.underlying3 kd_5 (E rfl rfl)) ?_
    refine AWL.buildSlice1 rfl rfl (B rfl) rfl el_40 rfl (evsC (E rfl rfl) evs0) (Nat.le_of_ble_eq_true rfl) rfl rfl ?_
    refine AWL.appendRow (i := 2) rfl rfl (B rfl) rfl el_40 (B rfl) rfl (E rfl rfl) (SrcT.sl so_40 (B rfl) (E rfl rfl) rfl) (by unfold maxLen; omega) (by omega) (fun A22 c22 => ?_)
    refine AWL.y rfl rfl (B rfl) (Yv.assign rfl (E rfl rfl)) ?_
    refine AWL.nil ?_
    obtain ⟨hL, hM⟩ := r0_yes h0t
    refine ⟨⟨A22, c22⟩, trivial, (Sub.cons rfl rfl (Sub.cons rfl rfl (Sub.cons rfl (by rw [hL] <;> rfl) Sub.nil))), ?_⟩
    rw [hL, hM]
    rfl
   try replace h0f := of_decide_eq_false h0f
   refine AW.skip ?_
   have hN := r0_no h0f
   refine ⟨⟨none, 0⟩, trivial, (Sub.cons rfl rfl (Sub.cons rfl rfl (Sub.cons rfl (by rw [hN] <;> rfl) Sub.nil))), ?_⟩
   rw [hN] <;> rfl
  ·
   rintro ⟨A, c⟩ hmid
   refine AW.rseq ?_
   refine AWL.y rfl rfl (B rfl) (Yv.loadBoxA rfl ag_88 (i := 0) rfl (E rfl rfl) rfl rfl) ?_
   refine AWL.y rfl rfl (B rfl) (Yv.loadBoxA rfl ag_30 (i := 1) rfl (E rfl rfl) rfl rfl) ?_
   refine AWL.callT rfl rfl (B rfl) rfl ce_71 (E rfl rfl) (evsC (E rfl rfl) (evsC (E rfl rfl) (evsC (E rfl rfl) evs0))) (at71 f i 1) ?_
   rintro t25 S25 rfl
   refine AWL.y rfl rfl (B rfl) (Yv.assign rfl (E rfl rfl)) ?_
   refine AWL.nil ?_
   refine AW.mid (α := Unit) (fun _ => [(2, true, .v (.pointer (some ⟨b2, 0, none⟩))), (3, true, .v (.pointer (some ⟨b3, 0, none⟩))), (5, true, .v (.slice A (r0 f).length c)), (6, true, .v (.int .i64 (upF f i))), (7, true, .v (.int .i64 (baseF f i)))]) (fun _ => [.box b2 88 (formCells f), .box b3 30 (insCells i), Ent.row A (r0 f).length c 5 1 ((r0 f).map u8)]) (fun _ => True) ?_ ?_
   ·
    refine AW.regionH (HeldBox b3 (insVals i)) rfl (tells_box (k := 1) rfl) ?_
    refine AWH.take (i := 1) rfl (by kernel_rfl) (by kernel_rfl) (by kernel_rfl) rfl rfl (B rfl) (heldLoadA rfl ag_30 (E rfl rfl) rfl rfl rfl rfl) ?_
    refine AWH.take (i := 4) rfl (by kernel_rfl) (by kernel_rfl) (by kernel_rfl) rfl rfl (B rfl) (heldLoadA rfl ag_30 (E rfl rfl) rfl rfl rfl rfl) ?_
    refine AWH.two (i := 0) (j := 3) (by kernel_rfl) rfl rfl ?_ ?_
    ·
     refine AWL.y rfl rfl (B rfl) (Yv.loadBoxA rfl ag_88 (i := 0) rfl (E rfl rfl) rfl rfl) ?_
     refine AWL.nil ⟨tells_box (k := 1) rfl, ?_⟩
     refine AWH.two (i := 2) (j := 3) (by kernel_rfl) rfl rfl ?_ ?_
     ·
      refine AWL.callP rfl rfl (B rfl) rfl ce_71 (E rfl rfl) (evsC (E rfl rfl) (evsC (E rfl rfl) (evsC (E rfl rfl) evs0))) (at71 f i 2) (fun t S h => h) ?_
      refine AWL.nil ⟨tells_box (k := 1) rfl, ?_⟩
      refine AWH.one (i := 3) (by kernel_rfl) rfl ?_
      refine AWL.y rfl rfl (B rfl) (Yv.loadBoxA rfl ag_88 (i := 0) rfl (E rfl rfl) rfl rfl) ?_
      refine AWL.nil ⟨tells_box (k := 1) rfl, ?_⟩
      refine AWH.one (i := 5) (by kernel_rfl) rfl ?_
      refine AWL.callP rfl rfl (B rfl) rfl ce_71 (E rfl rfl) (evsC (E rfl rfl) (evsC (E rfl rfl) (evsC (E rfl rfl) evs0))) (at71 f i 3) (fun t S h => h) ?_
      refine AWL.nil ⟨tells_box (k := 1) rfl, ?_⟩
      refine AWH.one (i := 6) (by kernel_rfl) rfl ?_
      refine AWL.y rfl rfl (B rfl) (Yv.addN_i64 rfl (E rfl rfl) (E rfl rfl) (fun hg => by omega)) ?_
      refine AWL.nil ⟨tells_box (k := 1) rfl, ?_⟩
      refine AWH.one (i := 7) (by kernel_rfl) rfl ?_
      refine AWL.y rfl rfl (B rfl) (Yv.assign rfl (E rfl rfl)) ?_
      refine AWL.nil ⟨tells_box (k := 1) rfl, ?_⟩
      refine AWH.done (by kernel_rfl) ?_
      exact ⟨(), trivial, (Sub.cons rfl rfl (Sub.cons rfl rfl (Sub.cons rfl rfl (Sub.cons rfl rfl (Sub.cons rfl rfl Sub.nil))))), rfl⟩
     ·
      refine AWL.y rfl rfl (B rfl) (Yv.loadBoxA rfl ag_88 (i := 0) rfl (E rfl rfl) rfl rfl) ?_
      refine AWL.nil ⟨tells_box (k := 1) rfl, ?_⟩
      refine AWH.one (i := 2) (by kernel_rfl) rfl ?_
      refine AWL.callP rfl rfl (B rfl) rfl ce_71 (E rfl rfl) (evsC (E rfl rfl) (evsC (E rfl rfl) (evsC (E rfl rfl) evs0))) (at71 f i 2) (fun t S h => h) ?_
      refine AWL.nil ⟨tells_box (k := 1) rfl, ?_⟩
      refine AWH.one (i := 5) (by kernel_rfl) rfl ?_
      refine AWL.callP rfl rfl (B rfl) rfl ce_71 (E rfl rfl) (evsC (E rfl rfl) (evsC (E rfl rfl) (evsC (E rfl rfl) evs0))) (at71 f i 3) (fun t S h => h) ?_
      refine AWL.nil ⟨tells_box (k := 1) rfl, ?_⟩
      refine AWH.one (i := 6) (by kernel_rfl) rfl ?_
      refine AWL.y rfl rfl (B rfl) (Yv.addN_i64 rfl (E rfl rfl) (E rfl rfl) (fun hg => by omega)) ?_
      refine AWL.nil ⟨tells_box (k := 1) rfl, ?_⟩
      refine AWH.one (i := 7) (by kernel_rfl) rfl ?_
      refine AWL.y rfl rfl (B rfl) (Yv.assign rfl (E rfl rfl)) ?_
      refine AWL.nil ⟨tells_box (k := 1) rfl, ?_⟩
      refine AWH.done (by kernel_rfl) ?_
      exact ⟨(), trivial, (Sub.cons rfl rfl (Sub.cons rfl rfl (Sub.cons rfl rfl (Sub.cons rfl rfl (Sub.cons rfl rfl Sub.nil))))), rfl⟩
    ·
     refine AWL.y rfl rfl (B rfl) (Yv.loadBoxA rfl ag_88 (i := 0) rfl (E rfl rfl) rfl rfl) ?_
     refine AWL.nil ⟨tells_box (k := 1) rfl, ?_⟩
     refine AWH.one (i := 0) (by kernel_rfl) rfl ?_
     refine AWL.y rfl rfl (B rfl) (Yv.loadBoxA rfl ag_88 (i := 0) rfl (E rfl rfl) rfl rfl) ?_
     refine AWL.nil ⟨tells_box (k := 1) rfl, ?_⟩
     refine AWH.one (i := 2) (by kernel_rfl) rfl ?_
     refine AWL.callP rfl rfl (B rfl) rfl ce_71 (E rfl rfl) (evsC (E rfl rfl) (evsC (E rfl rfl) (evsC (E rfl rfl) evs0))) (at71 f i 2) (fun t S h => h) ?_
     refine AWL.nil ⟨tells_box (k := 1) rfl, ?_⟩
     refine AWH.one (i := 5) (by kernel_rfl) rfl ?_
     refine AWL.callP rfl rfl (B rfl) rfl ce_71 (E rfl rfl) (evsC (E rfl rfl) (evsC (E rfl rfl) (evsC (E rfl rfl) evs0))) (at71 f i 3) (fun t S h => h) ?_
     refine AWL.nil ⟨tells_box (k := 1) rfl, ?_⟩
     refine AWH.one (i := 6) (by kernel_rfl) rfl ?_
     refine AWL.y rfl rfl (B rfl) (Yv.addN_i64 rfl (E rfl rfl) (E rfl rfl) (fun hg => by omega)) ?_
     refine AWL.nil ⟨tells_box (k := 1) rfl, ?_⟩
     refine AWH.one (i := 7) (by kernel_rfl) rfl ?_
     refine AWL.y rfl rfl (B rfl) (Yv.assign rfl (E rfl rfl)) ?_
     refine AWL.nil ⟨tells_box (k := 1) rfl, ?_⟩
     refine AWH.done (by kernel_rfl) ?_
     exact ⟨(), trivial, (Sub.cons rfl rfl (Sub.cons rfl rfl (Sub.cons rfl rfl (Sub.cons rfl rfl (Sub.cons rfl rfl Sub.nil))))), rfl⟩
   ·
    rintro _ hmid
    refine AW.mid (α := Option Addr × Nat) (fun q => [(2, true, .v (.pointer (some ⟨b2, 0, none⟩))), (3, true, .v (.pointer (some ⟨b3, 0, none⟩))), (5, true, .v (.slice q.1 (r1 f i).length q.2)), (6, true, .v (.int .i64 (upF f i))), (7, true, .v (.int .i64 (baseF f i)))]) (fun q => [.box b2 88 (formCells f), .box b3 30 (insCells i), Ent.row q.1 (r1 f i).length q.2 5 1 ((r1 f i).map u8)]) (fun _ => True) ?_ ?_
    ·
     refine AW.rseq ?_
     refine AWL.y rfl rfl (B rfl) (Yv.fieldBox rfl fo_88_3 (E rfl rfl)) ?_
     refine AWL.y rfl rfl (B rfl) (Yv.loadBox rfl ag_4 (i := 0) rfl (E rfl rfl) rfl) ?_
     refine AWL.nil ?_
     refine AW.cond rfl (fun h1t => ?_) (fun h1f => ?_)
     ·
      try replace h1t := of_decide_eq_true h1t
      refine AW.region ?_
      refine AWL.y rfl rfl (B rfl) (Yv.move rfl (E rfl rfl)) ?_
      refine AWL.y rfl rfl (B rfl) (Yv.fieldBox rfl fo_88_4 (E rfl rfl)) ?_
      refine AWL.y rfl rfl (B rfl) (Yv.loadBox rfl ag_3 (i := 0) rfl (E rfl rfl) rfl) ?_
      refine AWL.y rfl rfl (B rfl) (Yv.mulN_i64 rfl (E rfl rfl) (E rfl rfl) (fun hg => by omega)) ?_
      refine AWL.y rfl rfl (B rfl) (Yv.addN_i64 rfl (E rfl rfl) (E rfl rfl) (fun hg => by omega)) ?_
      refine AWL.y rfl rfl (B rfl) (Yv.move rfl (E rfl rfl)) ?_
      refine AWL.y rfl rfl (B rfl) (Yv.quoN_i64 rfl (E rfl rfl) (E rfl rfl) (fun hg => by omega)) ?_
      refine AWL.y rfl rfl (B rfl) (Yv.mulN_i64 rfl (E rfl rfl) (E rfl rfl) (fun hg => by omega)) ?_
      refine AWL.y rfl rfl (B rfl) (Yv.addN_i64 rfl (E rfl rfl) (E rfl rfl) (fun hg => by omega)) ?_
      refine AWL.y rfl rfl (B rfl) (Yv.move rfl (E rfl rfl)) ?_
      refine AWL.y rfl rfl (B rfl) (Yv.quoN_i64 rfl (E rfl rfl) (E rfl rfl) (fun hg => by omega)) ?_
      refine AWL.y rfl rfl (B rfl) (Yv.addN_i64 rfl (E rfl rfl) (E rfl rfl) (fun hg => by omega)) ?_
      refine AWL.y rfl rfl (B rfl) (Yv.conv rfl Try.underlying3 kd_5 (E rfl rfl)) ?_
      refine AWL.buildSlice1 rfl rfl (B rfl) rfl el_40 rfl (evsC (E rfl rfl) evs0) (Nat.le_of_ble_eq_true rfl) rfl rfl ?_
      refine AWL.appendRow (i := 2) rfl rfl (B rfl) rfl el_40 (B rfl) rfl (E rfl rfl) (SrcT.sl so_40 (B rfl) (E rfl rfl) rfl) (by unfold maxLen; omega) (by omega) (fun A49 c49 => ?_)
      refine AWL.y rfl rfl (B rfl) (Yv.assign rfl (E rfl rfl)) ?_
      refine AWL.nil ?_
      obtain ⟨hL, hM⟩ := r1_yes (i := i) h1t
      refine ⟨⟨A49, c49⟩, trivial, (Sub.cons rfl rfl (Sub.cons rfl rfl (Sub.cons rfl (by rw [hL] <;> rfl) (Sub.cons rfl rfl (Sub.cons rfl rfl Sub.nil))))), ?_⟩
      rw [hL, hM]
      rfl
     try replace h1f := of_decide_eq_false h1f
     refine AW.skip ?_
     have hN := r1_no (i := i) (ne_true_of_eq_false h1f)
     refine ⟨⟨A, c⟩, trivial, (Sub.cons rfl rfl (Sub.cons rfl rfl (Sub.cons rfl (by rw [hN]) (Sub.cons rfl rfl (Sub.cons rfl rfl Sub.nil))))), ?_⟩
     rw [hN] <;> rfl
    ·
     rintro ⟨A, c⟩ hmid
     refine AW.seq ?_
     refine AW.rseq ?_
     refine AWL.y rfl rfl (B rfl) (Yv.assign rfl (E rfl rfl)) ?_
     refine AWL.nil ?_
     refine AW.block ?_
     refine AW.loop3 (fun (j : Nat) (Ao : Option Addr) (co : Nat) => [(2, true, .v (.pointer (some ⟨b2, 0, none⟩))), (3, true, .v (.pointer (some ⟨b3, 0, none⟩))), (5, true, .v (.slice Ao (r2 f i j).length co)), (6, true, .v (.int .i64 (upF f i))), (7, true, .v (.int .i64 (baseF f i))), (8, true, .v (.int .i64 (j : Int)))]) (fun (j : Nat) (Ao : Option Addr) (co : Nat) => [.box b2 88 (formCells f), .box b3 30 (insCells i), Ent.row Ao (r2 f i j).length co 5 1 ((r2 f i j).map u8)]) (fun (j : Nat) (Ao : Option Addr) (co : Nat) => j ≤ f.op.length) (fun (j : Nat) (Ao : Option Addr) (co : Nat) => f.op.length - j) 0 A c ?_ ?_ ?_ ?_
     · exact Nat.zero_le _
     · exact (Sub.cons rfl rfl (Sub.cons rfl rfl (Sub.cons rfl (by rw [r2_zero]) (Sub.cons rfl rfl (Sub.cons rfl rfl (Sub.cons rfl rfl Sub.nil))))))
     · rw [r2_zero]
     ·
      intro j Ao co hinv
      have hlj := hl2 j
      refine AW.seq ?_
      refine AW.rseq ?_
      refine AWL.y rfl rfl (B rfl) (Yv.move rfl (E rfl rfl)) ?_
      refine AWL.y rfl rfl (B rfl) (Yv.fieldBox rfl fo_88_5 (E rfl rfl)) ?_
      refine AWL.y rfl rfl (B rfl) (Yv.loadBox rfl ag_51 (i := 0) rfl (E rfl rfl) rfl) ?_
      refine AWL.y rfl rfl (B rfl) (Yv.lenSl rfl so_51 (B rfl) (E rfl rfl) len_ints) ?_
      refine AWL.y rfl rfl (B rfl) (Yv.lss rfl (E rfl rfl) (E rfl rfl)) ?_
      refine AWL.nil ?_
      refine AW.cond rfl (fun h2t => ?_) (fun h2f => ?_)
      ·
       try replace h2t := of_decide_eq_true h2t
       have hjl : j < f.op.length := by omega
       obtain ⟨ho1, ho2, ho3, ho4⟩ := opX_range (i := i) ⟨hf1, hf2, hf3, hf4, hf5, hf6⟩ hc hjl
       refine AW.skip ?_
       refine AW.seq ?_
       refine AW.block ?_
       refine AW.rseq ?_
       refine AWL.y rfl rfl (B rfl) (Yv.fieldBox rfl fo_88_5 (E rfl rfl)) ?_
       refine AWL.y rfl rfl (B rfl) (Yv.loadBox rfl ag_51 (i := 0) rfl (E rfl rfl) rfl) ?_
       refine AWL.y rfl rfl (B rfl) (Yv.move rfl (E rfl rfl)) ?_
       refine AWL.y rfl rfl (B rfl) (Yv.indexSl rfl ss_51 (B rfl) (E rfl rfl) (E rfl rfl) (fun hg => ⟨rfl, (by first | omega | (simp only [len_lines, len_inss, len_zu, len_ints, len_u8s, len_zq]; omega))⟩)) ?_
       refine AWL.y rfl rfl (B rfl) (Yv.loadRp rfl ag_3 (E rfl rfl) (fun hg => ints_get (by omega))) ?_
       refine AWL.y rfl rfl (B rfl) (Yv.assign rfl (E rfl rfl)) ?_
       refine AWL.nil ?_
       refine AW.mid (α := Unit) (fun _ => [(2, true, .v (.pointer (some ⟨b2, 0, none⟩))), (3, true, .v (.pointer (some ⟨b3, 0, none⟩))), (5, true, .v (.slice Ao (r2 f i j).length co)), (6, true, .v (.int .i64 (upF f i))), (7, true, .v (.int .i64 (baseF f i))), (8, true, .v (.int .i64 (j : Int))), (9, true, .v (.int .i64 (opX f i j)))]) (fun _ => [.box b2 88 (formCells f), .box b3 30 (insCells i), Ent.row Ao (r2 f i j).length co 5 1 ((r2 f i j).map u8)]) (fun _ => True) ?_ ?_
       ·
        refine AW.rseq ?_
        refine AWL.y rfl rfl (B rfl) (Yv.move rfl (E rfl rfl)) ?_
        refine AWL.y rfl rfl (B rfl) (Yv.fieldBox rfl fo_88_5 (E rfl rfl)) ?_
        refine AWL.y rfl rfl (B rfl) (Yv.loadBox rfl ag_51 (i := 0) rfl (E rfl rfl) rfl) ?_
        refine AWL.y rfl rfl (B rfl) (Yv.lenSl rfl so_51 (B rfl) (E rfl rfl) len_ints) ?_
        refine AWL.y rfl rfl (B rfl) (Yv.subN_i64 rfl (E rfl rfl) (E rfl rfl) (fun hg => by omega)) ?_
        refine AWL.y rfl rfl (B rfl) (Yv.eql rfl (E rfl rfl) (E rfl rfl)) ?_
        refine AWL.y rfl rfl (B rfl) (Yv.move rfl (E rfl rfl)) ?_
        refine AWL.ygT rfl rfl rfl rfl (B rfl) (Yv.fieldBox rfl fo_88_10 (E rfl rfl)) ?_
        refine AWL.ygT rfl rfl rfl rfl (B rfl) (Yv.loadBox rfl ag_3 (i := 0) rfl (Eg rfl rfl id) rfl) ?_
        refine AWL.ygT rfl rfl rfl rfl (B rfl) (Yv.eql rfl (Eg rfl rfl id) (E rfl rfl)) ?_
        refine AWL.y rfl rfl (B rfl) (Yv.pickAnd rfl (E rfl rfl) (Eg rfl rfl id)) ?_
        refine AWL.nil ?_
        refine AW.cond rfl (fun h3t => ?_) (fun h3f => ?_)
        ·
         try replace h3t := of_decide_eq_true h3t
         refine AW.region ?_
         refine AWL.y rfl rfl (B rfl) (Yv.move rfl (E rfl rfl)) ?_
         refine AWL.y rfl rfl (B rfl) (Yv.fieldBox rfl fo_30_3 (E rfl rfl)) ?_
         refine AWL.y rfl rfl (B rfl) (Yv.loadBox rfl ag_3 (i := 1) rfl (E rfl rfl) rfl) ?_
         refine AWL.y rfl rfl (B rfl) (Yv.addN_i64 rfl (E rfl rfl) (E rfl rfl) (fun hg => by omega)) ?_
         refine AWL.y rfl rfl (B rfl) (Yv.assign rfl (E rfl rfl)) ?_
         refine AWL.nil ?_
         refine ⟨(), trivial, (Sub.cons rfl rfl (Sub.cons rfl rfl (Sub.cons rfl rfl (Sub.cons rfl rfl (Sub.cons rfl rfl (Sub.cons rfl rfl (Sub.cons rfl (by rw [opX, if_pos h3t]) Sub.nil))))))), rfl⟩
        try replace h3f := of_decide_eq_false h3f
        refine AW.skip ?_
        refine ⟨(), trivial, (Sub.cons rfl rfl (Sub.cons rfl rfl (Sub.cons rfl rfl (Sub.cons rfl rfl (Sub.cons rfl rfl (Sub.cons rfl rfl (Sub.cons rfl (by rw [opX, if_neg (ne_true_of_eq_false h3f), Int.add_zero]) Sub.nil))))))), rfl⟩
       ·
        rintro _ hmid
        refine AW.mid (α := Unit) (fun _ => [(2, true, .v (.pointer (some ⟨b2, 0, none⟩))), (3, true, .v (.pointer (some ⟨b3, 0, none⟩))), (5, true, .v (.slice Ao (r2 f i j).length co)), (6, true, .v (.int .i64 (upF f i))), (7, true, .v (.int .i64 (baseF f i))), (8, true, .v (.int .i64 (j : Int))), (9, true, .v (.int .i64 (opY f i j)))]) (fun _ => [.box b2 88 (formCells f), .box b3 30 (insCells i), Ent.row Ao (r2 f i j).length co 5 1 ((r2 f i j).map u8)]) (fun _ => True) ?_ ?_
        ·
         refine AW.rseq ?_
         refine AWL.y rfl rfl (B rfl) (Yv.move rfl (E rfl rfl)) ?_
         refine AWL.y rfl rfl (B rfl) (Yv.fieldBox rfl fo_88_5 (E rfl rfl)) ?_
         refine AWL.y rfl rfl (B rfl) (Yv.loadBox rfl ag_51 (i := 0) rfl (E rfl rfl) rfl) ?_
         refine AWL.y rfl rfl (B rfl) (Yv.lenSl rfl so_51 (B rfl) (E rfl rfl) len_ints) ?_
         refine AWL.y rfl rfl (B rfl) (Yv.subN_i64 rfl (E rfl rfl) (E rfl rfl) (fun hg => by omega)) ?_
         refine AWL.y rfl rfl (B rfl) (Yv.eql rfl (E rfl rfl) (E rfl rfl)) ?_
         refine AWL.y rfl rfl (B rfl) (Yv.move rfl (E rfl rfl)) ?_
         refine AWL.ygT rfl rfl rfl rfl (B rfl) (Yv.fieldBox rfl fo_88_8 (E rfl rfl)) ?_
         refine AWL.ygT rfl rfl rfl rfl (B rfl) (Yv.loadBox rfl ag_3 (i := 0) rfl (Eg rfl rfl id) rfl) ?_
         refine AWL.ygT rfl rfl rfl rfl (B rfl) (Yv.eql rfl (Eg rfl rfl id) (E rfl rfl)) ?_
         refine AWL.y rfl rfl (B rfl) (Yv.pickAnd rfl (E rfl rfl) (Eg rfl rfl id)) ?_
         refine AWL.nil ?_
         refine AW.cond rfl (fun h4t => ?_) (fun h4f => ?_)
         ·
          try replace h4t := of_decide_eq_true h4t
          refine AW.region ?_
          refine AWL.y rfl rfl (B rfl) (Yv.move rfl (E rfl rfl)) ?_
          refine AWL.y rfl rfl (B rfl) (Yv.fieldBox rfl fo_30_1 (E rfl rfl)) ?_
          refine AWL.y rfl rfl (B rfl) (Yv.loadBox rfl ag_3 (i := 1) rfl (E rfl rfl) rfl) ?_
          refine AWL.y rfl rfl (B rfl) (Yv.remN rfl (E rfl rfl) (E rfl rfl) (fun hg => by omega)) ?_
          refine AWL.y rfl rfl (B rfl) (Yv.addN_i64 rfl (E rfl rfl) (E rfl rfl) (fun hg => by omega)) ?_
          refine AWL.y rfl rfl (B rfl) (Yv.assign rfl (E rfl rfl)) ?_
          refine AWL.nil ?_
          refine ⟨(), trivial, (Sub.cons rfl rfl (Sub.cons rfl rfl (Sub.cons rfl rfl (Sub.cons rfl rfl (Sub.cons rfl rfl (Sub.cons rfl rfl (Sub.cons rfl (by rw [opY, if_pos h4t]) Sub.nil))))))), rfl⟩
         try replace h4f := of_decide_eq_false h4f
         refine AW.skip ?_
         refine ⟨(), trivial, (Sub.cons rfl rfl (Sub.cons rfl rfl (Sub.cons rfl rfl (Sub.cons rfl rfl (Sub.cons rfl rfl (Sub.cons rfl rfl (Sub.cons rfl (by rw [opY, if_neg (ne_true_of_eq_false h4f), Int.add_zero]) Sub.nil))))))), rfl⟩
        ·
         rintro _ hmid
         refine AW.region ?_
         refine AWL.y rfl rfl (B rfl) (Yv.move rfl (E rfl rfl)) ?_
         refine AWL.y rfl rfl (B rfl) (Yv.move rfl (E rfl rfl)) ?_
         refine AWL.y rfl rfl (B rfl) (Yv.conv rfl Try.underlying3 kd_5 (E rfl rfl)) ?_
         refine AWL.buildSlice1 rfl rfl (B rfl) rfl el_40 rfl (evsC (E rfl rfl) evs0) (Nat.le_of_ble_eq_true rfl) rfl rfl ?_
         refine AWL.appendRow (i := 2) rfl rfl (B rfl) rfl el_40 (B rfl) rfl (E rfl rfl) (SrcT.sl so_40 (B rfl) (E rfl rfl) rfl) (by unfold maxLen; omega) (by omega) (fun A97 c97 => ?_)
         refine AWL.y rfl rfl (B rfl) (Yv.assign rfl (E rfl rfl)) ?_
         refine AWL.nil ?_
         refine AW.region ?_
         refine AWL.y rfl rfl (B rfl) (Yv.move rfl (E rfl rfl)) ?_
         refine AWL.y rfl rfl (B rfl) (Yv.addN_i64 rfl (E rfl rfl) (E rfl rfl) (fun hg => by omega)) ?_
         refine AWL.y rfl rfl (B rfl) (Yv.assign rfl (E rfl rfl)) ?_
         refine AWL.nil ?_
         obtain ⟨hL, hM⟩ := r2_next f i j
         refine ⟨j + 1, A97, c97, by omega, by omega, Sub.cons rfl rfl (Sub.cons rfl rfl (Sub.cons rfl (by rw [hL] <;> rfl) (Sub.cons rfl rfl (Sub.cons rfl rfl (Sub.cons rfl (by simp) Sub.nil))))), ?_⟩
         rw [hL, hM]
         rfl
      try replace h2f := of_decide_eq_false h2f
      refine AW.exit ?_
      refine AW.mid (α := Option Addr × Nat) (fun q => [(2, true, .v (.pointer (some ⟨b2, 0, none⟩))), (3, true, .v (.pointer (some ⟨b3, 0, none⟩))), (5, true, .v (.slice q.1 (r3 f i).length q.2)), (6, true, .v (.int .i64 (upF f i))), (7, true, .v (.int .i64 (baseF f i)))]) (fun q => [.box b2 88 (formCells f), .box b3 30 (insCells i), Ent.row q.1 (r3 f i).length q.2 5 1 ((r3 f i).map u8)]) (fun _ => True) ?_ ?_
      ·
       obtain rfl : j = f.op.length := by omega
       refine AW.rseq ?_
       refine AWL.y rfl rfl (B rfl) (Yv.fieldBox rfl fo_88_6 (E rfl rfl)) ?_
       refine AWL.y rfl rfl (B rfl) (Yv.loadBox rfl ag_3 (i := 0) rfl (E rfl rfl) rfl) ?_
       refine AWL.y rfl rfl (B rfl) (Yv.geq rfl (E rfl rfl) (E rfl rfl)) ?_
       refine AWL.nil ?_
       refine AW.cond rfl (fun h5t => ?_) (fun h5f => ?_)
       ·
        try replace h5t := of_decide_eq_true h5t
        refine AW.rseq ?_
        refine AWL.y rfl rfl (B rfl) (Yv.move rfl (E rfl rfl)) ?_
        refine AWL.y rfl rfl (B rfl) (Yv.remN rfl (E rfl rfl) (E rfl rfl) (fun hg => by omega)) ?_
        refine AWL.y rfl rfl (B rfl) (Yv.assign rfl (E rfl rfl)) ?_
        refine AWL.nil ?_
        refine AW.mid (α := Unit) (fun _ => [(2, true, .v (.pointer (some ⟨b2, 0, none⟩))), (3, true, .v (.pointer (some ⟨b3, 0, none⟩))), (5, true, .v (.slice Ao (r2 f i f.op.length).length co)), (6, true, .v (.int .i64 (upF f i))), (7, true, .v (.int .i64 (baseF f i))), (10, true, .v (.int .i64 (regX f i)))]) (fun _ => [.box b2 88 (formCells f), .box b3 30 (insCells i), Ent.row Ao (r2 f i f.op.length).length co 5 1 ((r2 f i f.op.length).map u8)]) (fun _ => True) ?_ ?_
        ·
         refine AW.rseq ?_
         refine AWL.y rfl rfl (B rfl) (Yv.fieldBox rfl fo_88_8 (E rfl rfl)) ?_
         refine AWL.y rfl rfl (B rfl) (Yv.loadBox rfl ag_3 (i := 0) rfl (E rfl rfl) rfl) ?_
         refine AWL.y rfl rfl (B rfl) (Yv.neq rfl (E rfl rfl) (E rfl rfl)) ?_
         refine AWL.y rfl rfl (B rfl) (Yv.move rfl (E rfl rfl)) ?_
         refine AWL.ygT rfl rfl rfl rfl (B rfl) (Yv.fieldBox rfl fo_88_9 (E rfl rfl)) ?_
         refine AWL.ygT rfl rfl rfl rfl (B rfl) (Yv.loadBox rfl ag_3 (i := 0) rfl (Eg rfl rfl id) rfl) ?_
         refine AWL.ygT rfl rfl rfl rfl (B rfl) (Yv.neq rfl (Eg rfl rfl id) (E rfl rfl)) ?_
         refine AWL.y rfl rfl (B rfl) (Yv.pickAnd rfl (E rfl rfl) (Eg rfl rfl id)) ?_
         refine AWL.nil ?_
         refine AW.cond rfl (fun h6t => ?_) (fun h6f => ?_)
         ·
          try replace h6t := of_decide_eq_true h6t
          refine AW.region ?_
          refine AWL.y rfl rfl (B rfl) (Yv.fieldBox rfl fo_88_7 (E rfl rfl)) ?_
          refine AWL.y rfl rfl (B rfl) (Yv.loadBox rfl ag_3 (i := 0) rfl (E rfl rfl) rfl) ?_
          refine AWL.y rfl rfl (B rfl) (Yv.assign rfl (E rfl rfl)) ?_
          refine AWL.nil ?_
          refine ⟨(), trivial, (Sub.cons rfl rfl (Sub.cons rfl rfl (Sub.cons rfl rfl (Sub.cons rfl rfl (Sub.cons rfl rfl (Sub.cons rfl (by rw [regX, if_pos h6t]) Sub.nil)))))), rfl⟩
         try replace h6f := of_decide_eq_false h6f
         refine AW.skip ?_
         refine ⟨(), trivial, (Sub.cons rfl rfl (Sub.cons rfl rfl (Sub.cons rfl rfl (Sub.cons rfl rfl (Sub.cons rfl rfl (Sub.cons rfl (by rw [regX, if_neg (ne_true_of_eq_false h6f)]) Sub.nil)))))), rfl⟩
        ·
         rintro _ hmid
         refine AW.rseq ?_
         refine AWL.y rfl rfl (B rfl) (Yv.move rfl (E rfl rfl)) ?_
         refine AWL.y rfl rfl (B rfl) (Yv.fieldBox rfl fo_88_6 (E rfl rfl)) ?_
         refine AWL.y rfl rfl (B rfl) (Yv.loadBox rfl ag_3 (i := 0) rfl (E rfl rfl) rfl) ?_
         refine AWL.y rfl rfl (B rfl) (Yv.mulN_i64 rfl (E rfl rfl) (E rfl rfl) (fun hg => by omega)) ?_
         refine AWL.y rfl rfl (B rfl) (Yv.move rfl (E rfl rfl)) ?_
         refine AWL.y rfl rfl (B rfl) (Yv.mulN_i64 rfl (E rfl rfl) (E rfl rfl) (fun hg => by omega)) ?_
         refine AWL.y rfl rfl (B rfl) (Yv.addN_i64 rfl (E rfl rfl) (E rfl rfl) (fun hg => by omega)) ?_
         refine AWL.y rfl rfl (B rfl) (Yv.move rfl (E rfl rfl)) ?_
         refine AWL.y rfl rfl (B rfl) (Yv.remN rfl (E rfl rfl) (E rfl rfl) (fun hg => by omega)) ?_
         refine AWL.y rfl rfl (B rfl) (Yv.addN_i64 rfl (E rfl rfl) (E rfl rfl) (fun hg => by omega)) ?_
         refine AWL.y rfl rfl (B rfl) (Yv.conv rfl Try.underlying3 kd_5 (E rfl rfl)) ?_
         refine AWL.buildSlice1 rfl rfl (B rfl) rfl el_40 rfl (evsC (E rfl rfl) evs0) (Nat.le_of_ble_eq_true rfl) rfl rfl ?_
         refine AWL.appendRow (i := 2) rfl rfl (B rfl) rfl el_40 (B rfl) rfl (E rfl rfl) (SrcT.sl so_40 (B rfl) (E rfl rfl) rfl) (by unfold maxLen; omega) (by omega) (fun A125 c125 => ?_)
         refine AWL.y rfl rfl (B rfl) (Yv.assign rfl (E rfl rfl)) ?_
         refine AWL.nil ?_
         refine AW.rseq ?_
         refine AWL.y rfl rfl (B rfl) (Yv.fieldBox rfl fo_88_6 (E rfl rfl)) ?_
         refine AWL.y rfl rfl (B rfl) (Yv.loadBox rfl ag_3 (i := 0) rfl (E rfl rfl) rfl) ?_
         refine AWL.y rfl rfl (B rfl) (Yv.eql rfl (E rfl rfl) (E rfl rfl)) ?_
         refine AWL.y rfl rfl (B rfl) (Yv.move rfl (E rfl rfl)) ?_
         refine AWL.ygT rfl rfl rfl rfl (B rfl) (Yv.move rfl (E rfl rfl)) ?_
         refine AWL.ygT rfl rfl rfl rfl (B rfl) (Yv.remN rfl (Eg rfl rfl id) (E rfl rfl) (fun hg => by first | omega | (simp only [Bool.and_eq_true, Bool.or_eq_false_iff, Bool.not_eq_true', Bool.not_eq_false', decide_eq_true_eq, decide_eq_false_iff_not] at hg; omega))) ?_
         refine AWL.ygT rfl rfl rfl rfl (B rfl) (Yv.eql rfl (Eg rfl rfl id) (E rfl rfl)) ?_
         refine AWL.y rfl rfl (B rfl) (Yv.pickAnd rfl (E rfl rfl) (Eg rfl rfl id)) ?_
         refine AWL.nil ?_
         refine AW.cond rfl (fun h7t => ?_) (fun h7f => ?_)
         ·
          try replace h7t := of_decide_eq_true h7t
          refine AW.region ?_
          refine AWL.y rfl rfl (B rfl) (Yv.move rfl (E rfl rfl)) ?_
          refine AWL.buildSlice1 rfl rfl (B rfl) rfl el_40 rfl (evsC (E rfl rfl) evs0) (Nat.le_of_ble_eq_true rfl) rfl rfl ?_
          refine AWL.appendRow (i := 2) rfl rfl (B rfl) rfl el_40 (B rfl) rfl (E rfl rfl) (SrcT.sl so_40 (B rfl) (E rfl rfl) rfl) (by unfold maxLen; omega) (by omega) (fun A136 c136 => ?_)
          refine AWL.y rfl rfl (B rfl) (Yv.assign rfl (E rfl rfl)) ?_
          refine AWL.nil ?_
          obtain ⟨hL, hM⟩ := r3_yes h5t h7t
          refine ⟨⟨A136, c136⟩, trivial, (Sub.cons rfl rfl (Sub.cons rfl rfl (Sub.cons rfl (by rw [hL] <;> rfl) (Sub.cons rfl rfl (Sub.cons rfl rfl Sub.nil))))), ?_⟩
          rw [hL, hM]
          rfl
         try replace h7f := of_decide_eq_false h7f
         refine AW.skip ?_
         obtain ⟨hL, hM⟩ := r3_one h5t (ne_true_of_eq_false h7f)
         refine ⟨⟨A125, c125⟩, trivial, (Sub.cons rfl rfl (Sub.cons rfl rfl (Sub.cons rfl (by rw [hL] <;> rfl) (Sub.cons rfl rfl (Sub.cons rfl rfl Sub.nil))))), ?_⟩
         rw [hL, hM]
         rfl
       try replace h5f := of_decide_eq_false h5f
       refine AW.skip ?_
       have hN := r3_no (i := i) h5f
       refine ⟨⟨Ao, co⟩, trivial, (Sub.cons rfl rfl (Sub.cons rfl rfl (Sub.cons rfl (by rw [hN]) (Sub.cons rfl rfl (Sub.cons rfl rfl Sub.nil))))), ?_⟩
       rw [hN] <;> rfl
      ·
       rintro ⟨A, c⟩ hmid
       refine AW.rseq ?_
       refine AWL.y rfl rfl (B rfl) (Yv.assign rfl (E rfl rfl)) ?_
       refine AWL.nil ?_
       refine AW.mid (α := Option Addr × Nat) (fun q => [(2, true, .v (.pointer (some ⟨b2, 0, none⟩))), (3, true, .v (.pointer (some ⟨b3, 0, none⟩))), (5, true, .v (.slice q.1 (r3 f i).length q.2)), (11, true, .v (.int .i64 (sizeR f.imm : Int)))]) (fun q => [.box b2 88 (formCells f), .box b3 30 (insCells i), Ent.row q.1 (r3 f i).length q.2 5 1 ((r3 f i).map u8)]) (fun _ => True) ?_ ?_
       ·
        refine AW.rseq ?_
        refine AWL.y rfl rfl (B rfl) (Yv.fieldBox rfl fo_88_11 (E rfl rfl)) ?_
        refine AWL.y rfl rfl (B rfl) (Yv.loadBox rfl ag_3 (i := 0) rfl (E rfl rfl) rfl) ?_
        refine AWL.nil ?_
        refine AW.block ?_
        refine AW.rseq ?_
        refine AWL.y rfl rfl (B rfl) (Yv.eql rfl (E rfl rfl) (E rfl rfl)) ?_
        refine AWL.y rfl rfl (B rfl) (Yv.assign rfl (E rfl rfl)) ?_
        refine AWL.nil ?_
        refine AW.cond rfl (fun h8t => ?_) (fun h8f => ?_)
        ·
         try replace h8t := of_decide_eq_true h8t
         refine AW.region ?_
         refine AWL.y rfl rfl (B rfl) (Yv.assign rfl (E rfl rfl)) ?_
         refine AWL.nil ?_
         refine ⟨⟨A, c⟩, trivial, (Sub.cons rfl rfl (Sub.cons rfl rfl (Sub.cons rfl rfl (Sub.cons rfl (by rw [sizeR, if_pos h8t]; rfl) Sub.nil)))), rfl⟩
        try replace h8f := of_decide_eq_false h8f
        refine AW.rseq ?_
        refine AWL.y rfl rfl (B rfl) (Yv.eql rfl (E rfl rfl) (E rfl rfl)) ?_
        refine AWL.y rfl rfl (B rfl) (Yv.assign rfl (E rfl rfl)) ?_
        refine AWL.nil ?_
        refine AW.cond rfl (fun h9t => ?_) (fun h9f => ?_)
        ·
         try replace h9t := of_decide_eq_true h9t
         refine AW.region ?_
         refine AWL.y rfl rfl (B rfl) (Yv.assign rfl (E rfl rfl)) ?_
         refine AWL.nil ?_
         refine ⟨⟨A, c⟩, trivial, (Sub.cons rfl rfl (Sub.cons rfl rfl (Sub.cons rfl rfl (Sub.cons rfl (by rw [sizeR, if_neg h8f, if_pos h9t]; rfl) Sub.nil)))), rfl⟩
        try replace h9f := of_decide_eq_false h9f
        refine AW.rseq ?_
        refine AWL.y rfl rfl (B rfl) (Yv.eql rfl (E rfl rfl) (E rfl rfl)) ?_
        refine AWL.y rfl rfl (B rfl) (Yv.assign rfl (E rfl rfl)) ?_
        refine AWL.nil ?_
        refine AW.cond rfl (fun h10t => ?_) (fun h10f => ?_)
        ·
         try replace h10t := of_decide_eq_true h10t
         refine AW.region ?_
         refine AWL.y rfl rfl (B rfl) (Yv.assign rfl (E rfl rfl)) ?_
         refine AWL.nil ?_
         refine ⟨⟨A, c⟩, trivial, (Sub.cons rfl rfl (Sub.cons rfl rfl (Sub.cons rfl rfl (Sub.cons rfl (by rw [sizeR, if_neg h8f, if_neg h9f, if_pos h10t]; rfl) Sub.nil)))), rfl⟩
        try replace h10f := of_decide_eq_false h10f
        refine AW.skip ?_
        refine ⟨⟨A, c⟩, trivial, (Sub.cons rfl rfl (Sub.cons rfl rfl (Sub.cons rfl rfl (Sub.cons rfl (by rw [sizeR, if_neg h8f, if_neg h9f, if_neg h10f]; rfl) Sub.nil)))), rfl⟩
       ·
        rintro ⟨A, c⟩ hmid
        refine AW.rseq ?_
        refine AWL.y rfl rfl (B rfl) (Yv.fieldBox rfl fo_30_5 (E rfl rfl)) ?_
        refine AWL.y rfl rfl (B rfl) (Yv.loadBox rfl ag_2 (i := 1) rfl (E rfl rfl) rfl) ?_
        refine AWL.y rfl rfl (B rfl) (Yv.conv rfl Try.underlying2 kd_23 (E rfl rfl)) ?_
        rw [IntKind.wrap_u64]
        refine AWL.y rfl rfl (B rfl) (Yv.assign rfl (E rfl rfl)) ?_
        refine AWL.nil ?_
        refine AW.seq ?_
        refine AW.rseq ?_
        refine AWL.y rfl rfl (B rfl) (Yv.assign rfl (E rfl rfl)) ?_
        refine AWL.nil ?_
        refine AW.block ?_
        refine AW.loop3 (fun (j : Nat) (Ao : Option Addr) (co : Nat) => [(2, true, .v (.pointer (some ⟨b2, 0, none⟩))), (3, true, .v (.pointer (some ⟨b3, 0, none⟩))), (5, true, .v (.slice Ao (r4 f i j).length co)), (11, true, .v (.int .i64 (sizeR f.imm : Int))), (12, true, .v (.int .u64 (i.imm % 18446744073709551616 / 256 ^ j))), (13, true, .v (.int .i64 (j : Int)))]) (fun (j : Nat) (Ao : Option Addr) (co : Nat) => [.box b2 88 (formCells f), .box b3 30 (insCells i), Ent.row Ao (r4 f i j).length co 5 1 ((r4 f i j).map u8)]) (fun (j : Nat) (Ao : Option Addr) (co : Nat) => j ≤ sizeR f.imm) (fun (j : Nat) (Ao : Option Addr) (co : Nat) => sizeR f.imm - j) 0 A c ?_ ?_ ?_ ?_
        · exact Nat.zero_le _
        · exact (Sub.cons rfl rfl (Sub.cons rfl rfl (Sub.cons rfl (by rw [r4_zero]) (Sub.cons rfl rfl (Sub.cons rfl (by simp) (Sub.cons rfl rfl Sub.nil))))))
        · rw [r4_zero]
        ·
         intro j Ao co hinv
         have hlj := hl4 j
         refine AW.seq ?_
         refine AW.rseq ?_
         refine AWL.y rfl rfl (B rfl) (Yv.move rfl (E rfl rfl)) ?_
         refine AWL.y rfl rfl (B rfl) (Yv.move rfl (E rfl rfl)) ?_
         refine AWL.y rfl rfl (B rfl) (Yv.lss rfl (E rfl rfl) (E rfl rfl)) ?_
         refine AWL.nil ?_
         refine AW.cond rfl (fun h11t => ?_) (fun h11f => ?_)
         ·
          try replace h11t := of_decide_eq_true h11t
          refine AW.skip ?_
          refine AW.seq ?_
          refine AW.block ?_
          obtain ⟨hn0, hn1⟩ := imm_step i.imm j
          refine AW.rseq ?_
          refine AWL.y rfl rfl (B rfl) (Yv.move rfl (E rfl rfl)) ?_
          refine AWL.y rfl rfl (B rfl) (Yv.move rfl (E rfl rfl)) ?_
          refine AWL.y rfl rfl (B rfl) (Yv.remN rfl (E rfl rfl) (E rfl rfl) (fun hg => by omega)) ?_
          refine AWL.y rfl rfl (B rfl) (Yv.conv rfl Try.underlying23 kd_5 (E rfl rfl)) ?_
          refine AWL.buildSlice1 rfl rfl (B rfl) rfl el_40 rfl (evsC (E rfl rfl) evs0) (Nat.le_of_ble_eq_true rfl) rfl rfl ?_
          refine AWL.appendRow (i := 2) rfl rfl (B rfl) rfl el_40 (B rfl) rfl (E rfl rfl) (SrcT.sl so_40 (B rfl) (E rfl rfl) rfl) (by unfold maxLen; omega) (by omega) (fun A158 c158 => ?_)
          refine AWL.y rfl rfl (B rfl) (Yv.assign rfl (E rfl rfl)) ?_
          refine AWL.nil ?_
          refine AW.region ?_
          refine AWL.y rfl rfl (B rfl) (Yv.move rfl (E rfl rfl)) ?_
          refine AWL.y rfl rfl (B rfl) (Yv.quoN_u64 rfl (E rfl rfl) (E rfl rfl) (fun hg => by omega)) ?_
          refine AWL.y rfl rfl (B rfl) (Yv.assign rfl (E rfl rfl)) ?_
          refine AWL.nil ?_
          refine AW.region ?_
          refine AWL.y rfl rfl (B rfl) (Yv.move rfl (E rfl rfl)) ?_
          refine AWL.y rfl rfl (B rfl) (Yv.addN_i64 rfl (E rfl rfl) (E rfl rfl) (fun hg => by omega)) ?_
          refine AWL.y rfl rfl (B rfl) (Yv.assign rfl (E rfl rfl)) ?_
          refine AWL.nil ?_
          obtain ⟨hL, hM⟩ := r4_next f i j
          refine ⟨j + 1, A158, c158, by omega, by omega, Sub.cons rfl rfl (Sub.cons rfl rfl (Sub.cons rfl (by rw [hL] <;> rfl) (Sub.cons rfl rfl (Sub.cons rfl (by rw [div_succ]) (Sub.cons rfl (by simp) Sub.nil))))), ?_⟩
          rw [hL, hM]
          rfl
         try replace h11f := of_decide_eq_false h11f
         refine AW.exit ?_
         obtain rfl : j = sizeR f.imm := by omega
         refine AW.freeze 2 5 rfl (B rfl) rfl ?_
         refine AW.rseq ?_
         refine AWL.y rfl rfl (B rfl) (Yv.move rfl (E rfl rfl)) ?_
         refine AWL.y rfl rfl (B rfl) (Yv.assign rfl (E rfl rfl)) ?_
         refine AWL.nil ?_
         refine AW.ret (retI (.tmp rfl .nil) ?_)
         rfl

end Go.Proofs.Ytabkedlmpaoloaa
