/-
  TEXTS JOINED: Wk14, Wk15, MMk, Mm12, Mm13, Mm14, MMn, Mm16, MMq.
-/
import Derived.Test.YtecpjlhbkmongaaGreatYe
set_option linter.unusedSimpArgs false
set_option linter.unusedVariables false
set_option linter.unusedSectionVars false
set_option linter.unnecessarySimpa false
namespace Go.Proofs.YtecpjlhbkmongaaGreat
open Go Go.RowKit

set_option maxHeartbeats 4000000 in
theorem bytes62 (f : FormF) (i : Ins) (hf : FormOk f) (hd : 0 ≤ i.d ∧ i.d ≤ 15) (hs : 0 ≤ i.s ∧ i.s ≤ 15) (hc : 0 ≤ i.cond ∧ i.cond ≤ 15) :
    ACalls Tryz.prog 39 [formT f, insT i] [] fun t_ S => t_ = u8s (bytesF f i) := by
 have hu := at_range (f := f) hd hs 1
 have hb2 := at_range (f := f) hd hs 2
 have hb3 := at_range (f := f) hd hs 3
 obtain ⟨hf1, hf2, hf3, hf4, hf5, hf6⟩ := hf
 obtain ⟨hl0, hl1, hl2, hl3, hl4⟩ := bits_len f i
 have hbase : baseF f i = atF f i 2 + atF f i 3 := rfl
 have hupf : upF f i = atF f i 1 := rfl
 have hrx : 0 ≤ regX f i ∧ regX f i ≤ 7 := by
  unfold regX
  split <;> omega
 have hsz := sizeR_le f.imm
 refine ACalls.intro Tryz.func39 rfl Tryz.ntmps39 nB rfl fun X w0 => ?_
 refine rs ?_
 refine AWL.boxOp rfl rfl (B rfl) rfl (E rfl rfl) rfl (fun b2 => ?_)
 refine AWL.boxOp rfl rfl (B rfl) rfl (E rfl rfl) rfl (fun b3 => ?_)
 refine ya ?_
 refine ra ?_
 refine AW.rowNil 5 1 ?_
 refine AW.mid (α := Option Addr × Nat) (fun q => [(2, true, pv b2), (3, true, pv b3), (5, true, .v (.slice q.1 (r0 f).length q.2))]) (fun q => [.box b2 114 (formCells f), .box b3 57 (insCells i), Ent.row q.1 (r0 f).length q.2 5 1 ((r0 f).map u8)]) (fun _ => True) ?_ ?_
 ·
  refine rs (yf fo_114_2 ?_)
  refine yl ag_3 0 ?_
  refine Y1 (Yv.gtr rfl eV eV) (nl ?_)
  refine AW.cond rfl (fun h0t => ?_) (fun h0f => ?_)
  ·
   try replace h0t := odt h0t
   refine AW.region ?_
   refine ym ?_
   refine yf fo_114_2 ?_
   refine yl ag_3 0 ?_
   refine Y1 (Yv.conv rfl Tryz.underlying3 kd_5 eV) ?_
   refine AWL.buildSlice1 rfl rfl (B rfl) rfl el_27 rfl (evsC (E rfl rfl) evs0) nB rfl rfl ?_
   refine AWL.appendRow (i := 2) rfl rfl (B rfl) rfl el_27 (B rfl) rfl (E rfl rfl) (SrcT.sl so_27 (B rfl) (E rfl rfl) rfl) (by unfold maxLen; omega) (by omega) (fun A22 c22 => ?_)
   refine ya ?_
   obtain ⟨hL, hM⟩ := r0_yes h0t
   refine ⟨⟨A22, c22⟩, trivial, (su (su (Sub.cons rfl (by rw [hL] <;> rfl) Sub.nil))), ?_⟩
   rw [hL, hM]
   rfl
  try replace h0f := odf h0f
  refine AW.skip ?_
  have hN := r0_no h0f
  refine ⟨⟨none, 0⟩, trivial, (su (su (Sub.cons rfl (by rw [hN] <;> rfl) Sub.nil))), ?_⟩
  rw [hN] <;> rfl
 ·
  rintro ⟨A, c⟩ hmid
  refine rs (Y1 (Yv.loadBoxA rfl ag_114 (i := 0) rfl eV rfl rfl) ?_)
  refine Y1 (Yv.loadBoxA rfl ag_57 (i := 1) rfl eV rfl rfl) ?_
  refine AWL.callT rfl rfl (B rfl) rfl ce_51 (E rfl rfl) (evsC (E rfl rfl) (evsC (E rfl rfl) (evsC (E rfl rfl) evs0))) (at71 f i 1) ?_
  rintro t25 S25 rfl
  refine ya ?_
  refine AW.mid (α := Unit) (fun _ => [(2, true, pv b2), (3, true, pv b3), (5, true, .v (.slice A (r0 f).length c)), (6, true, .v (.int .i64 (upF f i))), (7, true, .v (.int .i64 (baseF f i)))]) (fun _ => [.box b2 114 (formCells f), .box b3 57 (insCells i), Ent.row A (r0 f).length c 5 1 ((r0 f).map u8)]) (fun _ => True) ?_ ?_
  ·
   refine AW.regionH (HeldBox b3 (insVals i)) rfl (tells_box (k := 1) rfl) ?_
   refine AWH.tk (i := 1) rfl rfl rfl (B rfl) (heldLoadA rfl ag_57 (E rfl rfl) rfl rfl rfl rfl) ?_
   refine AWH.tk (i := 4) rfl rfl rfl (B rfl) (heldLoadA rfl ag_57 (E rfl rfl) rfl rfl rfl rfl) ?_
   refine AWH.two (i := 0) (j := 3) (by kernel_rfl) rfl rfl ?_ ?_
   ·
    refine Y1 (Yv.loadBoxA rfl ag_114 (i := 0) rfl eV rfl rfl) ?_
    refine tb 1 rfl ?_
    refine AWH.two (i := 2) (j := 3) (by kernel_rfl) rfl rfl ?_ ?_
    ·
     refine AWL.callP rfl rfl (B rfl) rfl ce_51 (E rfl rfl) (evsC (E rfl rfl) (evsC (E rfl rfl) (evsC (E rfl rfl) evs0))) (at71 f i 2) (fun t S h => h) ?_
     refine tb 1 rfl ?_
     refine AWH.one (i := 3) (by kernel_rfl) rfl ?_
     refine Y1 (Yv.loadBoxA rfl ag_114 (i := 0) rfl eV rfl rfl) ?_
     refine tb 1 rfl ?_
     refine AWH.one (i := 5) (by kernel_rfl) rfl ?_
     refine AWL.callP rfl rfl (B rfl) rfl ce_51 (E rfl rfl) (evsC (E rfl rfl) (evsC (E rfl rfl) (evsC (E rfl rfl) evs0))) (at71 f i 3) (fun t S h => h) ?_
     refine tb 1 rfl ?_
     refine AWH.one (i := 6) (by kernel_rfl) rfl ?_
     refine Y1 (Yv.addN_i64 rfl eV eV (fun hg => by omega)) ?_
     refine tb 1 rfl ?_
     refine AWH.one (i := 7) (by kernel_rfl) rfl ?_
     refine Y1 (Yv.assign rfl eV) ?_
     refine tb 1 rfl ?_
     refine AWH.done (by kernel_rfl) ?_
     exact ⟨(), trivial, (su (su (su (su (su sn))))), rfl⟩
    ·
     refine Y1 (Yv.loadBoxA rfl ag_114 (i := 0) rfl eV rfl rfl) ?_
     refine tb 1 rfl ?_
     refine AWH.one (i := 2) (by kernel_rfl) rfl ?_
     refine AWL.callP rfl rfl (B rfl) rfl ce_51 (E rfl rfl) (evsC (E rfl rfl) (evsC (E rfl rfl) (evsC (E rfl rfl) evs0))) (at71 f i 2) (fun t S h => h) ?_
     refine tb 1 rfl ?_
     refine AWH.one (i := 5) (by kernel_rfl) rfl ?_
     refine AWL.callP rfl rfl (B rfl) rfl ce_51 (E rfl rfl) (evsC (E rfl rfl) (evsC (E rfl rfl) (evsC (E rfl rfl) evs0))) (at71 f i 3) (fun t S h => h) ?_
     refine tb 1 rfl ?_
     refine AWH.one (i := 6) (by kernel_rfl) rfl ?_
     refine Y1 (Yv.addN_i64 rfl eV eV (fun hg => by omega)) ?_
     refine tb 1 rfl ?_
     refine AWH.one (i := 7) (by kernel_rfl) rfl ?_
     refine Y1 (Yv.assign rfl eV) ?_
     refine tb 1 rfl ?_
     refine AWH.done (by kernel_rfl) ?_
     exact ⟨(), trivial, (su (su (su (su (su sn))))), rfl⟩
   ·
    refine Y1 (Yv.loadBoxA rfl ag_114 (i := 0) rfl eV rfl rfl) ?_
    refine tb 1 rfl ?_
    refine AWH.one (i := 0) (by kernel_rfl) rfl ?_
    refine Y1 (Yv.loadBoxA rfl ag_114 (i := 0) rfl eV rfl rfl) ?_
    refine tb 1 rfl ?_
    refine AWH.one (i := 2) (by kernel_rfl) rfl ?_
    refine AWL.callP rfl rfl (B rfl) rfl ce_51 (E rfl rfl) (evsC (E rfl rfl) (evsC (E rfl rfl) (evsC (E rfl rfl) evs0))) (at71 f i 2) (fun t S h => h) ?_
    refine tb 1 rfl ?_
    refine AWH.one (i := 5) (by kernel_rfl) rfl ?_
    refine AWL.callP rfl rfl (B rfl) rfl ce_51 (E rfl rfl) (evsC (E rfl rfl) (evsC (E rfl rfl) (evsC (E rfl rfl) evs0))) (at71 f i 3) (fun t S h => h) ?_
    refine tb 1 rfl ?_
    refine AWH.one (i := 6) (by kernel_rfl) rfl ?_
    refine Y1 (Yv.addN_i64 rfl eV eV (fun hg => by omega)) ?_
    refine tb 1 rfl ?_
    refine AWH.one (i := 7) (by kernel_rfl) rfl ?_
    refine Y1 (Yv.assign rfl eV) ?_
    refine tb 1 rfl ?_
    refine AWH.done (by kernel_rfl) ?_
    exact ⟨(), trivial, (su (su (su (su (su sn))))), rfl⟩
  ·
   rintro _ hmid
   refine AW.mid (α := Option Addr × Nat) (fun q => [(2, true, pv b2), (3, true, pv b3), (5, true, .v (.slice q.1 (r1 f i).length q.2)), (6, true, .v (.int .i64 (upF f i))), (7, true, .v (.int .i64 (baseF f i)))]) (fun q => [.box b2 114 (formCells f), .box b3 57 (insCells i), Ent.row q.1 (r1 f i).length q.2 5 1 ((r1 f i).map u8)]) (fun _ => True) ?_ ?_
   ·
    refine rs (yf fo_114_3 ?_)
    refine yl ag_4 0 (nl ?_)
    refine AW.cond rfl (fun h1t => ?_) (fun h1f => ?_)
    ·
     try replace h1t := odt h1t
     refine AW.region ?_
     refine ym ?_
     refine yf fo_114_4 ?_
     refine yl ag_3 0 ?_
     refine Y1 (Yv.mulN_i64 rfl eV eV (fun hg => by omega)) ?_
     refine Y1 (Yv.addN_i64 rfl eV eV (fun hg => by omega)) ?_
     refine ym ?_
     refine Y1 (Yv.quoN_i64 rfl eV eV (fun hg => by omega)) ?_
     refine Y1 (Yv.mulN_i64 rfl eV eV (fun hg => by omega)) ?_
     refine Y1 (Yv.addN_i64 rfl eV eV (fun hg => by omega)) ?_
     refine ym ?_
     refine Y1 (Yv.quoN_i64 rfl eV eV (fun hg => by omega)) ?_
     refine Y1 (Yv.addN_i64 rfl eV eV (fun hg => by omega)) ?_
     refine Y1 (Yv.conv rfl Tryz.underlying3 kd_5 eV) ?_
     refine AWL.buildSlice1 rfl rfl (B rfl) rfl el_27 rfl (evsC (E rfl rfl) evs0) nB rfl rfl ?_
     refine AWL.appendRow (i := 2) rfl rfl (B rfl) rfl el_27 (B rfl) rfl (E rfl rfl) (SrcT.sl so_27 (B rfl) (E rfl rfl) rfl) (by unfold maxLen; omega) (by omega) (fun A49 c49 => ?_)
     refine ya ?_
     obtain ⟨hL, hM⟩ := r1_yes (i := i) h1t
     refine ⟨⟨A49, c49⟩, trivial, (su (su (Sub.cons rfl (by rw [hL] <;> rfl) (su (su sn))))), ?_⟩
     rw [hL, hM]
     rfl
    try replace h1f := odf h1f
    refine AW.skip ?_
    have hN := r1_no (i := i) (ne_true_of_eq_false h1f)
    refine ⟨⟨A, c⟩, trivial, (su (su (Sub.cons rfl (by rw [hN]) (su (su sn))))), ?_⟩
    rw [hN] <;> rfl
   ·
    rintro ⟨A, c⟩ hmid
    refine AW.seq ?_
    refine ra ?_
    refine AW.block ?_
    refine AW.loop3 (fun (j : Nat) (Ao : Option Addr) (co : Nat) => [(2, true, pv b2), (3, true, pv b3), (5, true, .v (.slice Ao (r2 f i j).length co)), (6, true, .v (.int .i64 (upF f i))), (7, true, .v (.int .i64 (baseF f i))), (8, true, .v (.int .i64 (j : Int)))]) (fun (j : Nat) (Ao : Option Addr) (co : Nat) => [.box b2 114 (formCells f), .box b3 57 (insCells i), Ent.row Ao (r2 f i j).length co 5 1 ((r2 f i j).map u8)]) (fun (j : Nat) (Ao : Option Addr) (co : Nat) => j ≤ f.op.length) (fun (j : Nat) (Ao : Option Addr) (co : Nat) => f.op.length - j) 0 A c ?_ ?_ ?_ ?_
    ·exact Nat.zero_le _
    ·exact (su (su (Sub.cons rfl (by rw [r2_zero]) (su (su (su sn))))))
    ·rw [r2_zero]
    ·
     intro j Ao co hinv
     have hlj := hl2 j
     refine AW.seq ?_
     refine rs (ym ?_)
     refine yf fo_114_5 ?_
     refine yl ag_112 0 ?_
     refine Y1 (Yv.lenSl rfl so_112 (B rfl) eV len_ints) ?_
     refine Y1 (Yv.lss rfl eV eV) (nl ?_)
     refine AW.cond rfl (fun h2t => ?_) (fun h2f => ?_)
     ·
      try replace h2t := odt h2t
      have hjl : j < f.op.length := by omega
      obtain ⟨ho1, ho2, ho3, ho4⟩ := opX_range (i := i) ⟨hf1, hf2, hf3, hf4, hf5, hf6⟩ hc hjl
      refine AW.skip ?_
      refine AW.seq ?_
      refine AW.block ?_
      refine rs (yf fo_114_5 ?_)
      refine yl ag_112 0 ?_
      refine ym ?_
      refine Y1 (Yv.indexSl rfl ss_112 (B rfl) eV eV (fun hg => ⟨rfl, (by first | omega | (simp only [len_ints, len_u8s]; omega))⟩)) ?_
      refine Y1 (Yv.loadRp rfl ag_3 eV (fun hg => ints_get (by omega))) ?_
      refine ya ?_
      refine AW.mid (α := Unit) (fun _ => [(2, true, pv b2), (3, true, pv b3), (5, true, .v (.slice Ao (r2 f i j).length co)), (6, true, .v (.int .i64 (upF f i))), (7, true, .v (.int .i64 (baseF f i))), (8, true, .v (.int .i64 (j : Int))), (9, true, .v (.int .i64 (opX f i j)))]) (fun _ => [.box b2 114 (formCells f), .box b3 57 (insCells i), Ent.row Ao (r2 f i j).length co 5 1 ((r2 f i j).map u8)]) (fun _ => True) ?_ ?_
      ·
       refine rs (ym ?_)
       refine yf fo_114_5 ?_
       refine yl ag_112 0 ?_
       refine Y1 (Yv.lenSl rfl so_112 (B rfl) eV len_ints) ?_
       refine Y1 (Yv.subN_i64 rfl eV eV (fun hg => by omega)) ?_
       refine Y1 (Yv.eql rfl eV eV) ?_
       refine ym ?_
       refine gT (Yv.fieldBox rfl fo_114_10 eV) ?_
       refine gT (Yv.loadBox rfl ag_3 (i := 0) rfl (Eg rfl rfl id) rfl) ?_
       refine gT (Yv.eql rfl (Eg rfl rfl id) eV) ?_
       refine Y1 (Yv.pickAnd rfl eV (Eg rfl rfl id)) (nl ?_)
       refine AW.cond rfl (fun h3t => ?_) (fun h3f => ?_)
       ·
        try replace h3t := odt h3t
        refine AW.region ?_
        refine ym ?_
        refine yf fo_57_3 ?_
        refine yl ag_3 1 ?_
        refine Y1 (Yv.addN_i64 rfl eV eV (fun hg => by omega)) ?_
        refine ya ?_
        refine ⟨(), trivial, (su (su (su (su (su (su (Sub.cons rfl (by rw [opX, if_pos h3t]) Sub.nil))))))), rfl⟩
       try replace h3f := odf h3f
       refine AW.skip ?_
       refine ⟨(), trivial, (su (su (su (su (su (su (Sub.cons rfl (by rw [opX, if_neg (ne_true_of_eq_false h3f), Int.add_zero]) Sub.nil))))))), rfl⟩
      ·
       rintro _ hmid
       refine AW.mid (α := Unit) (fun _ => [(2, true, pv b2), (3, true, pv b3), (5, true, .v (.slice Ao (r2 f i j).length co)), (6, true, .v (.int .i64 (upF f i))), (7, true, .v (.int .i64 (baseF f i))), (8, true, .v (.int .i64 (j : Int))), (9, true, .v (.int .i64 (opY f i j)))]) (fun _ => [.box b2 114 (formCells f), .box b3 57 (insCells i), Ent.row Ao (r2 f i j).length co 5 1 ((r2 f i j).map u8)]) (fun _ => True) ?_ ?_
       ·
        refine rs (ym ?_)
        refine yf fo_114_5 ?_
        refine yl ag_112 0 ?_
        refine Y1 (Yv.lenSl rfl so_112 (B rfl) eV len_ints) ?_
        refine Y1 (Yv.subN_i64 rfl eV eV (fun hg => by omega)) ?_
        refine Y1 (Yv.eql rfl eV eV) ?_
        refine ym ?_
        refine gT (Yv.fieldBox rfl fo_114_8 eV) ?_
        refine gT (Yv.loadBox rfl ag_3 (i := 0) rfl (Eg rfl rfl id) rfl) ?_
        refine gT (Yv.eql rfl (Eg rfl rfl id) eV) ?_
        refine Y1 (Yv.pickAnd rfl eV (Eg rfl rfl id)) (nl ?_)
        refine AW.cond rfl (fun h4t => ?_) (fun h4f => ?_)
        ·
         try replace h4t := odt h4t
         refine AW.region ?_
         refine ym ?_
         refine yf fo_57_1 ?_
         refine yl ag_3 1 ?_
         refine Y1 (Yv.remN rfl eV eV (fun hg => by omega)) ?_
         refine Y1 (Yv.addN_i64 rfl eV eV (fun hg => by omega)) ?_
         refine ya ?_
         refine ⟨(), trivial, (su (su (su (su (su (su (Sub.cons rfl (by rw [opY, if_pos h4t]) Sub.nil))))))), rfl⟩
        try replace h4f := odf h4f
        refine AW.skip ?_
        refine ⟨(), trivial, (su (su (su (su (su (su (Sub.cons rfl (by rw [opY, if_neg (ne_true_of_eq_false h4f), Int.add_zero]) Sub.nil))))))), rfl⟩
       ·
        rintro _ hmid
        refine AW.region ?_
        refine ym ?_
        refine ym ?_
        refine Y1 (Yv.conv rfl Tryz.underlying3 kd_5 eV) ?_
        refine AWL.buildSlice1 rfl rfl (B rfl) rfl el_27 rfl (evsC (E rfl rfl) evs0) nB rfl rfl ?_
        refine AWL.appendRow (i := 2) rfl rfl (B rfl) rfl el_27 (B rfl) rfl (E rfl rfl) (SrcT.sl so_27 (B rfl) (E rfl rfl) rfl) (by unfold maxLen; omega) (by omega) (fun A97 c97 => ?_)
        refine ya ?_
        refine AW.region ?_
        refine ym ?_
        refine Y1 (Yv.addN_i64 rfl eV eV (fun hg => by omega)) ?_
        refine ya ?_
        obtain ⟨hL, hM⟩ := r2_next f i j
        refine ⟨j + 1, A97, c97, by omega, by omega, su (su (Sub.cons rfl (by rw [hL] <;> rfl) (su (su (Sub.cons rfl (by simp) Sub.nil))))), ?_⟩
        rw [hL, hM]
        rfl
     try replace h2f := odf h2f
     refine AW.exit ?_
     refine AW.mid (α := Option Addr × Nat) (fun q => [(2, true, pv b2), (3, true, pv b3), (5, true, .v (.slice q.1 (r3 f i).length q.2)), (6, true, .v (.int .i64 (upF f i))), (7, true, .v (.int .i64 (baseF f i)))]) (fun q => [.box b2 114 (formCells f), .box b3 57 (insCells i), Ent.row q.1 (r3 f i).length q.2 5 1 ((r3 f i).map u8)]) (fun _ => True) ?_ ?_
     ·
      obtain rfl : j = f.op.length := by omega
      refine rs (yf fo_114_6 ?_)
      refine yl ag_3 0 ?_
      refine Y1 (Yv.geq rfl eV eV) (nl ?_)
      refine AW.cond rfl (fun h5t => ?_) (fun h5f => ?_)
      ·
       try replace h5t := odt h5t
       refine rs (ym ?_)
       refine Y1 (Yv.remN rfl eV eV (fun hg => by omega)) ?_
       refine ya ?_
       refine AW.mid (α := Unit) (fun _ => [(2, true, pv b2), (3, true, pv b3), (5, true, .v (.slice Ao (r2 f i f.op.length).length co)), (6, true, .v (.int .i64 (upF f i))), (7, true, .v (.int .i64 (baseF f i))), (10, true, .v (.int .i64 (regX f i)))]) (fun _ => [.box b2 114 (formCells f), .box b3 57 (insCells i), Ent.row Ao (r2 f i f.op.length).length co 5 1 ((r2 f i f.op.length).map u8)]) (fun _ => True) ?_ ?_
       ·
        refine rs (yf fo_114_8 ?_)
        refine yl ag_3 0 ?_
        refine Y1 (Yv.neq rfl eV eV) ?_
        refine ym ?_
        refine gT (Yv.fieldBox rfl fo_114_9 eV) ?_
        refine gT (Yv.loadBox rfl ag_3 (i := 0) rfl (Eg rfl rfl id) rfl) ?_
        refine gT (Yv.neq rfl (Eg rfl rfl id) eV) ?_
        refine Y1 (Yv.pickAnd rfl eV (Eg rfl rfl id)) (nl ?_)
        refine AW.cond rfl (fun h6t => ?_) (fun h6f => ?_)
        ·
         try replace h6t := odt h6t
         refine AW.region ?_
         refine yf fo_114_7 ?_
         refine yl ag_3 0 ?_
         refine ya ?_
         refine ⟨(), trivial, (su (su (su (su (su (Sub.cons rfl (by rw [regX, if_pos h6t]) Sub.nil)))))), rfl⟩
        try replace h6f := odf h6f
        refine AW.skip ?_
        refine ⟨(), trivial, (su (su (su (su (su (Sub.cons rfl (by rw [regX, if_neg (ne_true_of_eq_false h6f)]) Sub.nil)))))), rfl⟩
       ·
        rintro _ hmid
        refine rs (ym ?_)
        refine yf fo_114_6 ?_
        refine yl ag_3 0 ?_
        refine Y1 (Yv.mulN_i64 rfl eV eV (fun hg => by omega)) ?_
        refine ym ?_
        refine Y1 (Yv.mulN_i64 rfl eV eV (fun hg => by omega)) ?_
        refine Y1 (Yv.addN_i64 rfl eV eV (fun hg => by omega)) ?_
        refine ym ?_
        refine Y1 (Yv.remN rfl eV eV (fun hg => by omega)) ?_
        refine Y1 (Yv.addN_i64 rfl eV eV (fun hg => by omega)) ?_
        refine Y1 (Yv.conv rfl Tryz.underlying3 kd_5 eV) ?_
        refine AWL.buildSlice1 rfl rfl (B rfl) rfl el_27 rfl (evsC (E rfl rfl) evs0) nB rfl rfl ?_
        refine AWL.appendRow (i := 2) rfl rfl (B rfl) rfl el_27 (B rfl) rfl (E rfl rfl) (SrcT.sl so_27 (B rfl) (E rfl rfl) rfl) (by unfold maxLen; omega) (by omega) (fun A125 c125 => ?_)
        refine ya ?_
        refine rs (yf fo_114_6 ?_)
        refine yl ag_3 0 ?_
        refine Y1 (Yv.eql rfl eV eV) ?_
        refine ym ?_
        refine gT (Yv.move rfl eV) ?_
        refine gT (Yv.remN rfl (Eg rfl rfl id) (E rfl rfl) (fun hg => by first | omega | (simp only [Bool.and_eq_true, Bool.or_eq_false_iff, Bool.not_eq_true', Bool.not_eq_false', decide_eq_true_eq, decide_eq_false_iff_not] at hg; omega))) ?_
        refine gT (Yv.eql rfl (Eg rfl rfl id) eV) ?_
        refine Y1 (Yv.pickAnd rfl eV (Eg rfl rfl id)) (nl ?_)
        refine AW.cond rfl (fun h7t => ?_) (fun h7f => ?_)
        ·
         try replace h7t := odt h7t
         refine AW.region ?_
         refine ym ?_
         refine AWL.buildSlice1 rfl rfl (B rfl) rfl el_27 rfl (evsC (E rfl rfl) evs0) nB rfl rfl ?_
         refine AWL.appendRow (i := 2) rfl rfl (B rfl) rfl el_27 (B rfl) rfl (E rfl rfl) (SrcT.sl so_27 (B rfl) (E rfl rfl) rfl) (by unfold maxLen; omega) (by omega) (fun A136 c136 => ?_)
         refine ya ?_
         obtain ⟨hL, hM⟩ := r3_yes h5t h7t
         refine ⟨⟨A136, c136⟩, trivial, (su (su (Sub.cons rfl (by rw [hL] <;> rfl) (su (su sn))))), ?_⟩
         rw [hL, hM]
         rfl
        try replace h7f := odf h7f
        refine AW.skip ?_
        obtain ⟨hL, hM⟩ := r3_one h5t (ne_true_of_eq_false h7f)
        refine ⟨⟨A125, c125⟩, trivial, (su (su (Sub.cons rfl (by rw [hL] <;> rfl) (su (su sn))))), ?_⟩
        rw [hL, hM]
        rfl
      try replace h5f := odf h5f
      refine AW.skip ?_
      have hN := r3_no (i := i) h5f
      refine ⟨⟨Ao, co⟩, trivial, (su (su (Sub.cons rfl (by rw [hN]) (su (su sn))))), ?_⟩
      rw [hN] <;> rfl
     ·
      rintro ⟨A, c⟩ hmid
      refine ra ?_
      refine AW.mid (α := Option Addr × Nat) (fun q => [(2, true, pv b2), (3, true, pv b3), (5, true, .v (.slice q.1 (r3 f i).length q.2)), (11, true, .v (.int .i64 (sizeR f.imm : Int)))]) (fun q => [.box b2 114 (formCells f), .box b3 57 (insCells i), Ent.row q.1 (r3 f i).length q.2 5 1 ((r3 f i).map u8)]) (fun _ => True) ?_ ?_
      ·
       refine rs (yf fo_114_11 ?_)
       refine yl ag_3 0 (nl ?_)
       refine AW.block ?_
       refine rs (Y1 (Yv.eql rfl eV eV) ?_)
       refine ya ?_
       refine AW.cond rfl (fun h8t => ?_) (fun h8f => ?_)
       ·
        try replace h8t := odt h8t
        refine AW.region ?_
        refine ya ?_
        refine ⟨⟨A, c⟩, trivial, (su (su (su (Sub.cons rfl (by rw [sizeR, if_pos h8t]; rfl) Sub.nil)))), rfl⟩
       try replace h8f := odf h8f
       refine rs (Y1 (Yv.eql rfl eV eV) ?_)
       refine ya ?_
       refine AW.cond rfl (fun h9t => ?_) (fun h9f => ?_)
       ·
        try replace h9t := odt h9t
        refine AW.region ?_
        refine ya ?_
        refine ⟨⟨A, c⟩, trivial, (su (su (su (Sub.cons rfl (by rw [sizeR, if_neg h8f, if_pos h9t]; rfl) Sub.nil)))), rfl⟩
       try replace h9f := odf h9f
       refine rs (Y1 (Yv.eql rfl eV eV) ?_)
       refine ya ?_
       refine AW.cond rfl (fun h10t => ?_) (fun h10f => ?_)
       ·
        try replace h10t := odt h10t
        refine AW.region ?_
        refine ya ?_
        refine ⟨⟨A, c⟩, trivial, (su (su (su (Sub.cons rfl (by rw [sizeR, if_neg h8f, if_neg h9f, if_pos h10t]; rfl) Sub.nil)))), rfl⟩
       try replace h10f := odf h10f
       refine AW.skip ?_
       refine ⟨⟨A, c⟩, trivial, (su (su (su (Sub.cons rfl (by rw [sizeR, if_neg h8f, if_neg h9f, if_neg h10f]; rfl) Sub.nil)))), rfl⟩
      ·
       rintro ⟨A, c⟩ hmid
       refine rs (yf fo_57_5 ?_)
       refine yl ag_2 1 ?_
       refine Y1 (Yv.conv rfl Tryz.underlying2 kd_22 eV) ?_
       rw [IntKind.wrap_u64]
       refine ya ?_
       refine AW.seq ?_
       refine ra ?_
       refine AW.block ?_
       refine AW.loop3 (fun (j : Nat) (Ao : Option Addr) (co : Nat) => [(2, true, pv b2), (3, true, pv b3), (5, true, .v (.slice Ao (r4 f i j).length co)), (11, true, .v (.int .i64 (sizeR f.imm : Int))), (12, true, .v (.int .u64 (i.imm % 18446744073709551616 / 256 ^ j))), (13, true, .v (.int .i64 (j : Int)))]) (fun (j : Nat) (Ao : Option Addr) (co : Nat) => [.box b2 114 (formCells f), .box b3 57 (insCells i), Ent.row Ao (r4 f i j).length co 5 1 ((r4 f i j).map u8)]) (fun (j : Nat) (Ao : Option Addr) (co : Nat) => j ≤ sizeR f.imm) (fun (j : Nat) (Ao : Option Addr) (co : Nat) => sizeR f.imm - j) 0 A c ?_ ?_ ?_ ?_
       ·exact Nat.zero_le _
       ·exact (su (su (Sub.cons rfl (by rw [r4_zero]) (su (Sub.cons rfl (by simp) (su sn))))))
       ·rw [r4_zero]
       ·
        intro j Ao co hinv
        have hlj := hl4 j
        refine AW.seq ?_
        refine rs (ym ?_)
        refine ym ?_
        refine Y1 (Yv.lss rfl eV eV) (nl ?_)
        refine AW.cond rfl (fun h11t => ?_) (fun h11f => ?_)
        ·
         try replace h11t := odt h11t
         refine AW.skip ?_
         refine AW.seq ?_
         refine AW.block ?_
         obtain ⟨hn0, hn1⟩ := imm_step i.imm j
         refine rs (ym ?_)
         refine ym ?_
         refine Y1 (Yv.remN rfl eV eV (fun hg => by omega)) ?_
         refine Y1 (Yv.conv rfl Tryz.underlying22 kd_5 eV) ?_
         refine AWL.buildSlice1 rfl rfl (B rfl) rfl el_27 rfl (evsC (E rfl rfl) evs0) nB rfl rfl ?_
         refine AWL.appendRow (i := 2) rfl rfl (B rfl) rfl el_27 (B rfl) rfl (E rfl rfl) (SrcT.sl so_27 (B rfl) (E rfl rfl) rfl) (by unfold maxLen; omega) (by omega) (fun A158 c158 => ?_)
         refine ya ?_
         refine AW.region ?_
         refine ym ?_
         refine Y1 (Yv.quoN_u64 rfl eV eV (fun hg => by omega)) ?_
         refine ya ?_
         refine AW.region ?_
         refine ym ?_
         refine Y1 (Yv.addN_i64 rfl eV eV (fun hg => by omega)) ?_
         refine ya ?_
         obtain ⟨hL, hM⟩ := r4_next f i j
         refine ⟨j + 1, A158, c158, by omega, by omega, su (su (Sub.cons rfl (by rw [hL] <;> rfl) (su (Sub.cons rfl (by rw [div_succ]) (Sub.cons rfl (by simp) Sub.nil))))), ?_⟩
         rw [hL, hM]
         rfl
        try replace h11f := odf h11f
        refine AW.exit ?_
        obtain rfl : j = sizeR f.imm := by omega
        refine AW.freeze 2 5 rfl (B rfl) rfl ?_
        refine rs (ym ?_)
        refine ya ?_
        refine AW.ret (retI (.tmp rfl .nil) ?_)
        rfl

end Go.Proofs.YtecpjlhbkmongaaGreat

namespace Go.Proofs.YtecpjlhbkmongaaGreat
open Go Go.RowKit

theorem ref_at {i : Ins} {j : Nat} (hj : j < formsF.length) (hp : ∀ k, k < j → fitsF (formsF.getD k default) i = false) (h : fitsF (formsF.getD j default) i = true) : refF i = some (formsF.getD j default) := by
 rw [refF, getD_eq' hj, List.find?_eq_some_iff_getElem]
 rw [getD_eq' hj] at h
 refine ⟨h, j, hj, rfl, fun k hk => ?_⟩
 have := hp k hk
 rw [getD_eq' (by omega)] at this
 rw [this]; rfl
theorem ref_out {i : Ins} (hp : ∀ k, k < formsF.length → fitsF (formsF.getD k default) i = false) : refF i = none := by
 rw [refF, List.find?_eq_none]
 intro f hf
 obtain ⟨k, hk, rfl⟩ := List.mem_iff_getElem.1 hf
 have := hp k hk
 rw [getD_eq' hk] at this
 rw [this]; decide
set_option maxHeartbeats 1000000 in
theorem refEncode52 (i : Ins) :
    ACalls Tryz.prog 28 [insT i] [] fun t_ S => t_ = .tup [u8s (refB i), .v (.int .i64 (refE i))] := by
 have hfl : formsF.length = 59 := rfl
 refine ACalls.intro Tryz.func28 rfl Tryz.ntmps28 nB rfl fun X w0 => ?_
 refine rs ?_
 refine AWL.boxOp rfl rfl (B rfl) rfl (E rfl rfl) rfl (fun b1 => ?_)
 refine Y1 (Yv.assign rfl eV) ?_
 refine ya ?_
 refine rs ?_
 refine AWL.callT rfl rfl (B rfl) rfl ce_37 (E rfl rfl) evs0 (forms50) ?_
 rintro t7 S7 rfl
 refine ya ?_
 refine AW.seq ?_
 refine ra ?_
 refine AW.block ?_
 refine AW.loop (fun (j : Nat) => [(1, true, pv b1), (4, true, .sl 12 (formsF.flatMap formCells)), (5, true, .v (.int .i64 (j : Int)))]) (fun (j : Nat) => [.box b1 57 (insCells i)]) (fun (j : Nat) => j ≤ 59 ∧ ∀ k, k < j → fitsF (formsF.getD k default) i = false) (fun (j : Nat) => 59 - j) 0 ?_ ?_ ?_ ?_
 ·exact ⟨Nat.zero_le _, fun i hi => by omega⟩
 ·exact (su (su (su sn)))
 ·rfl
 ·
  intro j hinv
  obtain ⟨hj, hpre⟩ := hinv
  refine AW.seq ?_
  refine rs (ym ?_)
  refine ym ?_
  refine Y1 (Yv.lenSl rfl so_110 (B rfl) eV len_forms) ?_
  refine Y1 (Yv.lss rfl eV eV) (nl ?_)
  refine AW.cond rfl (fun h0t => ?_) (fun h0f => ?_)
  ·
   try replace h0t := odt h0t
   refine AW.skip ?_
   refine AW.seq ?_
   refine AW.block ?_
   refine AW.rseqH (HeldBox b1 (insVals i)) rfl (tells_box (k := 0) rfl) ?_
   refine AWH.tk (i := 0) rfl rfl rfl (B rfl) (heldAll (freeMove rfl (E rfl rfl))) ?_
   refine AWH.tk (i := 1) rfl rfl rfl (B rfl) (heldAll (freeMove rfl (E rfl rfl))) ?_
   refine AWH.tk (i := 4) rfl rfl rfl (B rfl) (heldLoadA rfl ag_57 (E rfl rfl) rfl rfl rfl rfl) ?_
   refine AWH.one (i := 2) (by kernel_rfl) rfl ?_
   refine Y1 (Yv.indexSl rfl ss_110 (B rfl) eV eV (fun hg => ⟨rfl, (by first | omega | (simp only [len_ints, len_u8s, len_forms, len_inss]; omega))⟩)) ?_
   refine tb 0 rfl ?_
   refine AWH.one (i := 3) (by kernel_rfl) rfl ?_
   refine Y1 (Yv.loadRpA rfl ag_114 eV (fun hg => form_get (by omega))) ?_
   refine tb 0 rfl ?_
   refine AWH.one (i := 5) (by kernel_rfl) rfl ?_
   refine AWL.callP rfl rfl (B rfl) rfl ce_38 (E rfl rfl) (evsC (E rfl rfl) (evsC (E rfl rfl) evs0)) (fits51 (formsF.getD j default) i) (fun t S h => h) ?_
   refine tb 0 rfl ?_
   refine AWH.one (i := 6) (by kernel_rfl) rfl ?_
   refine Y1 (Yv.assign rfl eV) ?_
   refine tb 0 rfl ?_
   refine AWH.done (by kernel_rfl) ?_
   refine rs (ym (nl ?_))
   refine AW.cond rfl (fun h1t => ?_) (fun h1f => ?_)
   ·
    try replace h1t := odt h1t
    have hr := fits_range h1t
    refine AW.rseqH (HeldBox b1 (insVals i)) rfl (tells_box (k := 0) rfl) ?_
    refine AWH.tk (i := 0) rfl rfl rfl (B rfl) (heldAll (freeMove rfl (E rfl rfl))) ?_
    refine AWH.tk (i := 1) rfl rfl rfl (B rfl) (heldAll (freeMove rfl (E rfl rfl))) ?_
    refine AWH.tk (i := 4) rfl rfl rfl (B rfl) (heldLoadA rfl ag_57 (E rfl rfl) rfl rfl rfl rfl) ?_
    refine AWH.one (i := 2) (by kernel_rfl) rfl ?_
    refine Y1 (Yv.indexSl rfl ss_110 (B rfl) eV eV (fun hg => ⟨rfl, (by first | omega | (simp only [len_ints, len_u8s, len_forms, len_inss]; omega))⟩)) ?_
    refine tb 0 rfl ?_
    refine AWH.one (i := 3) (by kernel_rfl) rfl ?_
    refine Y1 (Yv.loadRpA rfl ag_114 eV (fun hg => form_get (by omega))) ?_
    refine tb 0 rfl ?_
    refine AWH.one (i := 5) (by kernel_rfl) rfl ?_
    refine AWL.callT rfl rfl (B rfl) rfl ce_39 (E rfl rfl) (evsC (E rfl rfl) (evsC (E rfl rfl) evs0)) (bytes62 (formsF.getD j default) i (forms_ok _ (getD_mem' (by omega))) hr.1 hr.2.1 hr.2.2) ?_
    rintro t26 S26 rfl
    refine tb 0 rfl ?_
    refine AWH.one (i := 6) (by kernel_rfl) rfl ?_
    refine Y1 (Yv.assign rfl eV) ?_
    refine tb 0 rfl ?_
    refine AWH.one (i := 7) (by kernel_rfl) rfl ?_
    refine Y1 (Yv.assign rfl eV) ?_
    refine tb 0 rfl ?_
    refine AWH.done (by kernel_rfl) ?_
    refine AW.ret (retI (.tmp rfl (.tmp rfl .nil)) ?_)
    have hrf := ref_at (i := i) (j := j) (by omega) hpre h1t
    rw [refB, refE, hrf]
    rfl
   try replace h1f := odf h1f
   refine AW.skip ?_
   refine AW.region ?_
   refine ym ?_
   refine Y1 (Yv.addN_i64 rfl eV eV (fun hg => by omega)) ?_
   refine ya ?_
   refine ⟨j + 1, ⟨by omega, fun k hk => ?_⟩, by omega, su (su (Sub.cons rfl (by simp) Sub.nil)), rfl⟩
   rcases Nat.lt_or_ge k j with h | h
   ·exact hpre k h
   ·rw [show k = j by omega]; exact h1f
  try replace h0f := odf h0f
  refine AW.exit ?_
  refine rs (Y1 (Yv.assign rfl eV) ?_)
  refine ya ?_
  refine AW.retype (k := 2) (t' := u8s []) rfl (nil_sl (by decide)) ?_
  refine AW.ret (retI (.tmp rfl (.tmp rfl .nil)) ?_)
  have hrf := ref_out (i := i) (fun k hk => hpre k (by omega))
  rw [refB, refE, hrf]
  rfl

end Go.Proofs.YtecpjlhbkmongaaGreat

namespace Go.Proofs.YtecpjlhbkmongaaGreat.M
open Go Go.RowKit
def mapOfA (P : Program) (t : TypeId) : Option (TypeDesc × TypeId × TypeId × Value) :=
 match P.underlying t with
 | some (.map kt et) => match P.underlying kt, P.info? et with
  | some d, some i => match i.zero with
   | some z => some (d, kt, et, z)
   | none => none
  | _, _ => none
 | _ => none
theorem mapOfA_spec {P : Program} {t kt et : TypeId} {d : TypeDesc} {z : Value} (h : mapOfA P t = some (d, kt, et, z)) : P.underlying t = some (.map kt et) ∧ P.underlying kt = some d ∧ ∃ i, P.info? et = some i ∧ i.zero = some z := by
 unfold mapOfA at h
 split at h
 ·split at h
  ·split at h
   ·simp only [Option.some.injEq, Prod.mk.injEq] at h
    obtain ⟨rfl, rfl, rfl, rfl⟩ := h
    exact ⟨by assumption, by assumption, _, by assumption, by assumption⟩
   cases h
  cases h
 cases h
theorem mpa_68 : mapOfA Tryz.prog 68 = some (.int .u64, 22, 132, .agg #[.int .i64 0, .int .i64 0, .int .i64 0, .int .i64 0, .int .i64 0, .int .i64 0, .int .i64 0]) := by kernel_rfl
def KeysR (ks : List Key) (ms : Array MapEntry) : Prop := ms.toList.map (·.key) = ks.map Key.val
theorem KeysR.nil {ms : Array MapEntry} {c : Nat} (h : MapRaw [] ms c) : KeysR [] ms := by
 have := h.keys
 unfold KeysR
 rw [this]
 rfl
def dumK (ks : List Key) : List (Key × T) := ks.map fun k => (k, .v (.bool false))
theorem dum_keys (ks : List Key) : (dumK ks).map (·.1.val) = ks.map Key.val := by unfold dumK; rw [List.map_map]; rfl
theorem dum_none {k : Key} : ∀ {ks : List Key}, k ∉ ks → idxK k (dumK ks) = none
 | [], _ => rfl
 | q :: r, h => by
  show (if q = k then some 0 else (idxK k (dumK r)).map (· + 1)) = none
  rw [if_neg (fun e => h (by rw [e]; exact List.mem_cons_self)), dum_none (fun m => h (List.mem_cons_of_mem _ m))]
  rfl
section
variable {cx : Cx} {env : Env} {S : St} {o : Oper} {g : Bool} {x y z : Operand} {l : Array Oper} {K : Env → St → Prop}
theorem Yv.lookupMiss {t kt et : TypeId} {dd : TypeDesc} {zs : List Value} {k : Key} {i b c : Nat} {ms : Array MapEntry} {ks : List Key} (ho : o.op = .lookup t x y true) (ht : mapOfA cx.P t = some (dd, kt, et, .agg zs.toArray)) (h1z : ∀ u ∈ zs, u.oneCell' = true) (hi : S[i]? = some (.raw b (.map ms c))) (hK : KeysR ks ms)
    (hx : Ev env g x (.v (.map (some b)))) (hy : Ev env g y (.v k.val)) (hk : goodK dd k = true) (h2 : ∀ q ∈ ks, goodK dd q = true) (hm : k ∉ ks) : Yv cx o env S g (.tup [.agg (zs.map .v), bv false]) := by
 intro a w hs hg
 have hh := hs.raw hi
 have hb : b < w.heap.size := lt_of_heap hh
 refine ⟨.tuple #[.agg zs.toArray, .bool false], .tup (ys := [.agg zs.toArray, .bool false]) rfl (fun j t u e1 e2 => ?_), fun w' hkp => ?_⟩
 ·match j with
  | 0 =>
   simp only [List.getElem?_cons_zero, Option.some.injEq] at e1 e2
   subst e1; subst e2
   exact .agg (by simp) (fun j t u q1 q2 => by
    rw [List.getElem?_map, q2] at q1
    simp only [Option.map_some, Option.some.injEq] at q1
    subst q1
    exact .v _) h1z
  | 1 => simp at e1 e2; subst e1; subst e2; exact .v _
  | j + 2 => simp at e1
 have hh' : w'.heap[b]? = some (.map ms c) := (hkp.block b hb (by simp)).trans hh
 obtain ⟨e1, e2, i, e3, e4⟩ := mapOfA_spec ht
 have hf := run_findKey (P := cx.P) (ms := ms) (es := dumK ks) e2 hk (by rw [dum_keys]; exact hK) (fun e he => by
  obtain ⟨q, hq, rfl⟩ := List.mem_map.1 he
  exact h2 q hq) w'
 have hz : (zeroValue et).run cx.P w' = .ok (.agg zs.toArray) w' := by simp [zeroValue, typeInfo, e3, e4, Sem.run_bind, Sem.run_pure]
 have hc := fun em => run_checkKey (P := cx.P) e2 hk em w'
 rw [dum_none hm] at hf
 have hrun : (Instr.lookup t (.map (some b)) k.val true).run cx.P w' = .ok (.tuple #[.agg zs.toArray, .bool false]) w' := by
  simp only [Instr.lookup, Sem.run_bind, run_underlying e1, Result.andThen_ok, run_getMap hh', hc, Sem.run_pure, hf, Option.map_none, hz]
  rfl
 simp only [execOp, ho, hx.val hs hg, hy.val hs hg, Sem.run_bind, hrun, Sem.run_pure, Result.andThen_ok]
theorem AWL.mapNew {ops : List Oper} {t kt et : TypeId} {dd : TypeDesc} {zv : Value} {k : Key} {i b c : Nat} {ms : Array MapEntry} {ks : List Key} (hg : o.guard = none) (hd : o.dst = none) (ho : o.op = .mapUpdate t x y z ∨ o.op = .insert t x y z) (ht : mapOfA cx.P t = some (dd, kt, et, zv)) (hi : S[i]? = some (.raw b (.map ms c))) (hK : KeysR ks ms)
    (hx : Ev env true x (.v (.map (some b)))) (hy : Ev env true y (.v k.val)) (hk : goodK dd k = true) (h2 : ∀ q ∈ ks, goodK dd q = true) (hm : k ∉ ks)
    (hr : ∀ ms', KeysR (ks ++ [k]) ms' → AWL cx l ops K env (S.set i (.raw b (.map ms' (c + 1))))) : AWL cx l (o :: ops) K env S := by
 refine AWL.eff0 hg hd fun a w hs => ?_
 have hh := hs.raw hi
 obtain ⟨e1, e2, _⟩ := mapOfA_spec ht
 have h1 : ms.toList.map (·.key) = (dumK ks).map (·.1.val) := by rw [dum_keys]; exact hK
 have h2' : ∀ e ∈ dumK ks, goodK dd e.1 = true := fun e he => by
  obtain ⟨q, hq, rfl⟩ := List.mem_map.1 he
  exact h2 q hq
 have hf := run_findKey (P := cx.P) (ms := ms) (es := dumK ks) e2 hk h1 h2' w
 rw [dum_none hm] at hf
 have hc := run_checkKey (P := cx.P) e2 hk false w
 have hb : b < w.heap.size := lt_of_heap hh
 refine ⟨{ w with heap := w.heap.setIfInBounds b (.map (ms.push { key := k.val, val := a.eval z, born := c }) (c + 1)) }, _, ?_, ?_, hr (ms.push { key := k.val, val := a.eval z, born := c }) (by
  unfold KeysR at hK ⊢
  rw [Array.toList_push, List.map_append, hK, List.map_append]
  rfl)⟩
 ·have hrun : (Instr.mapUpdate t (.map (some b)) k.val (a.eval z)).run cx.P w = .ok () { w with heap := w.heap.setIfInBounds b (.map (ms.push { key := k.val, val := a.eval z, born := c }) (c + 1)) } := by
   simp only [Instr.mapUpdate, Sem.run_bind, run_underlying e1, Result.andThen_ok, run_getMap hh, hc, hf, Option.map_none, run_setMap hh]
  rcases ho with ho | ho <;> simp only [execOp, ho, hx.val hs rfl, hy.val hs rfl, Sem.run_bind, hrun, Sem.run_pure, Result.andThen_ok]
 have hother : ∀ q, q ≠ b → ({ w with heap := w.heap.setIfInBounds b (.map (ms.push { key := k.val, val := a.eval z, born := c }) (c + 1)) } : World).heap[q]? = w.heap[q]? := fun q hq => by simp [Array.getElem?_setIfInBounds, Ne.symm hq]
 exact hs.setEnt hi rfl (fun q _ hne => hother q (fun e => hne (by rw [e]; rfl))) (by simp) rfl rfl rfl (by
  show ({ w with heap := w.heap.setIfInBounds b (.map (ms.push { key := k.val, val := a.eval z, born := c }) (c + 1)) } : World).heap[b]? = _
  simp [hb])
end
end Go.Proofs.YtecpjlhbkmongaaGreat.M

namespace Go.Proofs.YtecpjlhbkmongaaGreat.M
open Go Go.RowKit

set_option maxHeartbeats 2000000 in
theorem fixed53 (mb mm kn : Nat) (P : T) (s : Ms) (w : T) (l : List Seg) (hs : Srt l) (hl : l.length ≤ 1048576) (a n : Wd64) (hfx : ∀ j, j < n.toNat → ¬ okB l 2 (a.toNat + j)) (han : a.toNat + n.toNat ≤ 18446744073709551615) :
    ACalls Tryz.prog 53 [.v (.pointer (some ⟨mb, 0, none⟩)), zw a, zw n] [Ent.box mb 73 (mcC s (.v (.pointer (some ⟨mm, 0, none⟩))) w (mapT kn)), Ent.box mm 102 [.sl 4 (l.flatMap seg0), P]] (fun t S => t = bv true ∧ S = [Ent.box mb 73 (mcC s (.v (.pointer (some ⟨mm, 0, none⟩))) w (mapT kn)), Ent.box mm 102 [.sl 4 (l.flatMap seg0), P]]) := by
 refine ACalls.intro Tryz.func53 rfl Tryz.ntmps53 (Nat.le_of_ble_eq_true rfl) rfl fun X w0 => ?_
 refine AW.rseq ?_
 refine AWL.y rfl rfl (B rfl) (Yv.assign rfl (E rfl rfl)) ?_
 refine AWL.nil ?_
 refine AW.seq ?_
 refine AW.rseq ?_
 refine AWL.y rfl rfl (B rfl) (Yv.move rfl (E rfl rfl)) ?_
 refine AWL.y rfl rfl (B rfl) (Yv.move rfl (E rfl rfl)) ?_
 refine AWL.nil ?_
 refine AW.block ?_
 refine AW.loop (fun (j : Wd64) => [(0, true, .v (.pointer (some ⟨mb, 0, none⟩))), (1, true, zw a), (2, true, zw n), (6, true, bv false), (8, true, zw n), (9, true, zw j)]) (fun (j : Wd64) => [Ent.box mb 73 (mcC s (.v (.pointer (some ⟨mm, 0, none⟩))) w (mapT kn)), Ent.box mm 102 [.sl 4 (l.flatMap seg0), P]]) (fun (j : Wd64) => j.toNat ≤ n.toNat) (fun (j : Wd64) => n.toNat - j.toNat) (0#64) ?_ ?_ ?_ ?_
 ·exact Nat.zero_le _
 ·exact (Sub.cons rfl rfl (Sub.cons rfl rfl (Sub.cons rfl rfl (Sub.cons rfl rfl (Sub.cons rfl rfl (Sub.cons rfl rfl Sub.nil))))))
 ·rfl
 intro j hinv
 refine AW.rseq ?_
 refine AWL.y rfl rfl (B rfl) (Yv.lssW rfl (E rfl rfl) (E rfl rfl)) ?_
 refine AWL.nil ?_
 refine AW.seq ?_
 refine AW.cond rfl (fun h0t => ?_) (fun h0f => ?_)
 ·try replace h0t := of_decide_eq_true h0t
  rw [BitVec.lt_def] at h0t
  refine AW.skip ?_
  refine AW.seq ?_
  refine AW.block ?_
  refine AW.rseq ?_
  refine AWL.y rfl rfl (B rfl) (Yv.move rfl (E rfl rfl)) ?_
  refine AWL.y rfl rfl (B rfl) (Yv.assign rfl (E rfl rfl)) ?_
  refine AWL.nil ?_
  refine AW.rseq ?_
  refine AWL.y rfl rfl (B rfl) (Yv.move rfl (E rfl rfl)) ?_
  refine AWL.y rfl rfl (B rfl) (Yv.nilChk rfl (E rfl rfl)) ?_
  refine AWL.y rfl rfl (B rfl) (Yv.fieldBox rfl fo_73_1 (E rfl rfl)) ?_
  refine AWL.y rfl rfl (B rfl) (Yv.loadBox rfl ag_65 (i := 0) rfl (E rfl rfl) rfl) ?_
  refine AWL.y rfl rfl (B rfl) (Yv.move rfl (E rfl rfl)) ?_
  refine AWL.y rfl rfl (B rfl) (Yv.move rfl (E rfl rfl)) ?_
  refine AWL.y rfl rfl (B rfl) (Yv.addW rfl (E rfl rfl) (E rfl rfl)) ?_
  refine AWL.callE rfl rfl (B rfl) rfl ce_26 (E rfl rfl) (evsC (E rfl rfl) (evsC (E rfl rfl) (evsC (E rfl rfl) (evsC (E rfl rfl) evs0)))) (F1 := [Ent.box mb 73 (mcC s (.v (.pointer (some ⟨mm, 0, none⟩))) w (mapT kn))]) (S1 := [Ent.box mm 102 [.sl 4 (l.flatMap seg0), P]]) rfl (room26 mm P l (a + j) 1#64 2 hs hl) ?_
  rintro t19 S19 ⟨⟨g, hrm, rfl⟩, rfl⟩
  refine AWL.y rfl rfl (B rfl) (Yv.gtrW (b := 0#64) rfl (E rfl rfl) (E rfl rfl)) ?_
  refine AWL.nil ?_
  refine AW.cond rfl (fun h1t => ?_) (fun h1f => ?_)
  ·try replace h1t := of_decide_eq_true h1t
   exact absurd (hrm.1.ok 0 (by rw [BitVec.lt_def] at h1t; exact h1t)) (by rw [add_w (by omega)]; exact hfx j.toNat h0t)
  try replace h1f := of_decide_eq_false h1f
  refine AW.skip ?_
  refine AW.region ?_
  refine AWL.y rfl rfl (B rfl) (Yv.addW (b := 1#64) rfl (E rfl rfl) (E rfl rfl)) ?_
  refine AWL.y rfl rfl (B rfl) (Yv.move rfl (E rfl rfl)) ?_
  refine AWL.nil ?_
  have e1 : (j + 1#64).toNat = j.toNat + 1 := by have := n.isLt; exact add_w (by show j.toNat + 1 < _; omega)
  exact ⟨j + 1#64, by omega, by omega, (Sub.cons rfl rfl (Sub.cons rfl rfl (Sub.cons rfl rfl (Sub.cons rfl rfl (Sub.cons rfl rfl (Sub.cons rfl rfl Sub.nil)))))), rfl⟩
 try replace h0f := of_decide_eq_false h0f
 refine AW.exit ?_
 refine AW.rseq ?_
 refine AWL.y rfl rfl (B rfl) (Yv.assign rfl (E rfl rfl)) ?_
 refine AWL.nil ?_
 refine AW.ret (retI (.tmp rfl .nil) ?_)
 exact ⟨rfl, rfl⟩

theorem decK {bs : List UInt8} {i : Ins} {k : Nat} (hi : decI bs = i) (hn : decN bs = k) (he : decE bs = 0) (hb : bs.length ≤ 1099511627776) : ACalls Tryz.prog 52 [.sl 1 (bs.map u8)] [] (fun t S => t = .tup [insT i, zi (k : Int), zi 0]) :=
 (Decode42 bs hb).mono fun t S h => by rw [h, hi, hn, he]; rfl
theorem bytesR_len (pgs : List Pg) (a : Wd64) (n : Nat) : (bytesR pgs a n).length = n := by unfold bytesR; simp
theorem goodW (kw : List Wd64) : ∀ q ∈ kw.map wk, goodK (.int .u64) q = true := fun q hq => by
 obtain ⟨x, _, rfl⟩ := List.mem_map.1 hq
 rfl
theorem wk_new {kw : List Wd64} {a : Wd64} (h : a ∉ kw) : wk a ∉ kw.map wk := fun hq => by
 obtain ⟨x, hx, e⟩ := List.mem_map.1 hq
 exact h (wk_inj e ▸ hx)
set_option maxHeartbeats 4000000 in
theorem fetch40 (mb mm pg kn : Nat) (s : Ms) (w : T) (l : List Seg) (pgs : List Pg) (hs : Srt l) (hl : l.length ≤ 1048576) (hpg : PgOk pgs) (kw : List Wd64) (mp : Array MapEntry) (c : Nat) (hK : KeysR (kw.map wk) mp) (hm : s.rip ∉ kw) (G : Nat) (hG : G ≤ 15) (hroom : ∀ g, Room l s.rip.toNat (15#64 : Wd64).toNat 1 g → g.toNat = G) (i : Ins) (k : Nat) (hk : k ≤ 15) (hi : decI (bytesR pgs s.rip G) = i) (hn : decN (bytesR pgs s.rip G) = k) (he : decE (bytesR pgs s.rip G) = 0) (hfx : ∀ j, j < k → ¬ okB l 2 (s.rip.toNat + j)) (han : s.rip.toNat + k ≤ 18446744073709551615) :
    ACalls Tryz.prog 40 [.v (.pointer (some ⟨mb, 0, none⟩))] (Ent.raw kn (.map mp c) :: Ent.box mb 73 (mcC s (.v (.pointer (some ⟨mm, 0, none⟩))) w (mapT kn)) :: Ent.box mm 102 [.sl 4 (l.flatMap seg0), mapT pg] :: memE 95 pg pgs) (fun t S => t = .tup [insT i, zi (k : Int), zi 0] ∧ ∃ (E1 E2 : Ent) (mp2 : Array MapEntry) (c2 : Nat), KeysR ((kw ++ [s.rip]).map wk) mp2 ∧ S = (E1 :: E2 :: Ent.raw kn (.map mp2 c2) :: Ent.box mb 73 (mcC s (.v (.pointer (some ⟨mm, 0, none⟩))) w (mapT kn)) :: Ent.box mm 102 [.sl 4 (l.flatMap seg0), mapT pg] :: memE 95 pg pgs)) := by
 refine ACalls.intro Tryz.func40 rfl Tryz.ntmps40 (Nat.le_of_ble_eq_true rfl) rfl fun X w0 => ?_
 refine AW.rseq ?_
 refine AWL.allocOp rfl rfl (B rfl) rfl zc_57 (fun b2 => ?_)
 refine AWL.perm (List.perm_append_singleton _ _).symm ?_
 refine AWL.y rfl rfl (B rfl) (Yv.assign rfl (E rfl rfl)) ?_
 refine AWL.y rfl rfl (B rfl) (Yv.assign rfl (E rfl rfl)) ?_
 refine AWL.nil ?_
 refine AW.seq ?_
 refine AW.mid (α := Nat) (fun q => [(0, true, .v (.pointer (some ⟨mb, 0, none⟩))), (2, true, .v (.pointer (some ⟨b2, 0, none⟩))), (3, true, zi 0), (4, true, zi 0), (6, true, bv false)]) (fun q => Ent.box q 132 [zi 0, zi 0, zi 0, zi 0, zi 0, zi 0, zi 0] :: Ent.box b2 57 (insCells ⟨0, 0, 0, 0, 0, 0⟩) :: (Ent.raw kn (.map mp c) :: Ent.box mb 73 (mcC s (.v (.pointer (some ⟨mm, 0, none⟩))) w (mapT kn)) :: Ent.box mm 102 [.sl 4 (l.flatMap seg0), mapT pg] :: memE 95 pg pgs)) (fun _ => True) ?_ ?_
 ·refine AW.regionH (HeldCs [(mb, 43, .map (some kn)), (mb, 37, .int .u64 (s.rip.toNat : Int))]) rfl (tells_cs (by first | exact tcB 2 rfl rfl pinV (tcB 2 rfl rfl pinV tc0) | exact tcB 3 rfl rfl pinV (tcB 3 rfl rfl pinV tc0))) ?_
  refine AWH.take (i := 0) rfl (by kernel_rfl) (by kernel_rfl) (by kernel_rfl) rfl rfl (B rfl) (heldAll (freeMove rfl (E rfl rfl))) ?_
  refine AWH.take (i := 1) rfl (by kernel_rfl) (by kernel_rfl) (by kernel_rfl) rfl rfl (B rfl) (heldAll (freeNil rfl (E rfl rfl))) ?_
  refine AWH.take (i := 2) rfl (by kernel_rfl) (by kernel_rfl) (by kernel_rfl) rfl rfl (B rfl) (heldAll (freeField rfl fo_73_4 (E rfl rfl))) ?_
  refine AWH.take (i := 3) rfl (by kernel_rfl) (by kernel_rfl) (by kernel_rfl) rfl rfl (B rfl) (heldB (r := mapT kn) 0 rfl ag_68 (E rfl rfl) rfl (fun _ _ => .v _)) ?_
  refine AWH.take (i := 4) rfl (by kernel_rfl) (by kernel_rfl) (by kernel_rfl) rfl rfl (B rfl) (heldAll (freeMove rfl (E rfl rfl))) ?_
  refine AWH.take (i := 5) rfl (by kernel_rfl) (by kernel_rfl) (by kernel_rfl) rfl rfl (B rfl) (heldAll (freeNil rfl (E rfl rfl))) ?_
  refine AWH.take (i := 6) rfl (by kernel_rfl) (by kernel_rfl) (by kernel_rfl) rfl rfl (B rfl) (heldAll (freeField rfl fo_73_0 (E rfl rfl))) ?_
  refine AWH.take (i := 7) rfl (by kernel_rfl) (by kernel_rfl) (by kernel_rfl) rfl rfl (B rfl) (heldAll (freeField rfl fo_71_3 (E rfl rfl))) ?_
  refine AWH.take (i := 8) rfl (by kernel_rfl) (by kernel_rfl) (by kernel_rfl) rfl rfl (B rfl) (heldB (r := zw s.rip) 1 rfl ag_22 (E rfl rfl) rfl (fun _ _ => .v _)) ?_
  refine AWH.two (i := 9) (j := 13) (by kernel_rfl) rfl rfl ?_ ?_
  ·first
    | refine AWL.y rfl rfl (B rfl) (Yv.lookupMiss (k := wk s.rip) (i := 1) rfl mpa_68 (by decide) rfl hK (E rfl rfl) (E rfl rfl) rfl (goodW kw) (wk_new hm)) ?_
    | refine AWL.y rfl rfl (B rfl) (Yv.lookupMiss (k := wk s.rip) (i := 2) rfl mpa_68 (by decide) rfl hK (E rfl rfl) (E rfl rfl) rfl (goodW kw) (wk_new hm)) ?_
   refine AWL.nil (kpH (by first | exact tcB 2 rfl rfl pinV (tcB 2 rfl rfl pinV tc0) | exact tcB 3 rfl rfl pinV (tcB 3 rfl rfl pinV tc0)) ?_)
   refine AWH.take (i := 10) rfl (by kernel_rfl) (by kernel_rfl) (by kernel_rfl) rfl rfl (B rfl) (heldAll (freeMove rfl (E rfl rfl))) ?_
   refine AWH.take (i := 11) rfl (by kernel_rfl) (by kernel_rfl) (by kernel_rfl) rfl rfl (B rfl) (heldAll (freeExtract rfl (E rfl rfl) rfl)) ?_
   refine AWH.take (i := 12) rfl (by kernel_rfl) (by kernel_rfl) (by kernel_rfl) rfl rfl (B rfl) (heldAll (freeExtract rfl (E rfl rfl) rfl)) ?_
   refine AWH.one (i := 13) (by kernel_rfl) rfl ?_
   refine AWL.allocOp rfl rfl (B rfl) rfl zc_132 (fun b5 => ?_)
   refine AWL.perm (List.perm_append_singleton _ _).symm ?_
   refine AWL.nil (kpH (by first | exact tcB 2 rfl rfl pinV (tcB 2 rfl rfl pinV tc0) | exact tcB 3 rfl rfl pinV (tcB 3 rfl rfl pinV tc0)) ?_)
   refine AWH.one (i := 14) (by kernel_rfl) rfl ?_
   refine AWL.storeBox (i := 0) rfl rfl rfl ag_132 rfl (E rfl rfl) (E rfl rfl) rfl rfl (Nat.le_of_ble_eq_true rfl) ?_
   refine AWL.nil (kpH (by first | exact tcB 2 rfl rfl pinV (tcB 2 rfl rfl pinV tc0) | exact tcB 3 rfl rfl pinV (tcB 3 rfl rfl pinV tc0)) ?_)
   refine AWH.one (i := 15) (by kernel_rfl) rfl ?_
   refine AWL.y rfl rfl (B rfl) (Yv.assign rfl (E rfl rfl)) ?_
   refine AWL.nil (kpH (by first | exact tcB 2 rfl rfl pinV (tcB 2 rfl rfl pinV tc0) | exact tcB 3 rfl rfl pinV (tcB 3 rfl rfl pinV tc0)) ?_)
   refine AWH.done (by kernel_rfl) ?_
   exact ⟨b5, trivial, (Sub.cons rfl rfl (Sub.cons rfl rfl (Sub.cons rfl rfl (Sub.cons rfl rfl (Sub.cons rfl rfl Sub.nil))))), rfl⟩
  refine AWL.allocOp rfl rfl (B rfl) rfl zc_132 (fun b5 => ?_)
  refine AWL.perm (List.perm_append_singleton _ _).symm ?_
  refine AWL.nil (kpH (by first | exact tcB 2 rfl rfl pinV (tcB 2 rfl rfl pinV tc0) | exact tcB 3 rfl rfl pinV (tcB 3 rfl rfl pinV tc0)) ?_)
  refine AWH.one (i := 9) (by kernel_rfl) rfl ?_
  first
   | refine AWL.y rfl rfl (B rfl) (Yv.lookupMiss (k := wk s.rip) (i := 1) rfl mpa_68 (by decide) rfl hK (E rfl rfl) (E rfl rfl) rfl (goodW kw) (wk_new hm)) ?_
   | refine AWL.y rfl rfl (B rfl) (Yv.lookupMiss (k := wk s.rip) (i := 2) rfl mpa_68 (by decide) rfl hK (E rfl rfl) (E rfl rfl) rfl (goodW kw) (wk_new hm)) ?_
  refine AWL.nil (kpH (by first | exact tcB 2 rfl rfl pinV (tcB 2 rfl rfl pinV tc0) | exact tcB 3 rfl rfl pinV (tcB 3 rfl rfl pinV tc0)) ?_)
  refine AWH.one (i := 10) (by kernel_rfl) rfl ?_
  refine AWL.y rfl rfl (B rfl) (Yv.move rfl (E rfl rfl)) ?_
  refine AWL.nil (kpH (by first | exact tcB 2 rfl rfl pinV (tcB 2 rfl rfl pinV tc0) | exact tcB 3 rfl rfl pinV (tcB 3 rfl rfl pinV tc0)) ?_)
  refine AWH.take (i := 11) rfl (by kernel_rfl) (by kernel_rfl) (by kernel_rfl) rfl rfl (B rfl) (heldAll (freeExtract rfl (E rfl rfl) rfl)) ?_
  refine AWH.take (i := 12) rfl (by kernel_rfl) (by kernel_rfl) (by kernel_rfl) rfl rfl (B rfl) (heldAll (freeExtract rfl (E rfl rfl) rfl)) ?_
  refine AWH.one (i := 14) (by kernel_rfl) rfl ?_
  refine AWL.storeBox (i := 0) rfl rfl rfl ag_132 rfl (E rfl rfl) (E rfl rfl) rfl rfl (Nat.le_of_ble_eq_true rfl) ?_
  refine AWL.nil (kpH (by first | exact tcB 2 rfl rfl pinV (tcB 2 rfl rfl pinV tc0) | exact tcB 3 rfl rfl pinV (tcB 3 rfl rfl pinV tc0)) ?_)
  refine AWH.one (i := 15) (by kernel_rfl) rfl ?_
  refine AWL.y rfl rfl (B rfl) (Yv.assign rfl (E rfl rfl)) ?_
  refine AWL.nil (kpH (by first | exact tcB 2 rfl rfl pinV (tcB 2 rfl rfl pinV tc0) | exact tcB 3 rfl rfl pinV (tcB 3 rfl rfl pinV tc0)) ?_)
  refine AWH.done (by kernel_rfl) ?_
  exact ⟨b5, trivial, (Sub.cons rfl rfl (Sub.cons rfl rfl (Sub.cons rfl rfl (Sub.cons rfl rfl (Sub.cons rfl rfl Sub.nil))))), rfl⟩
 rintro b5 hmid
 refine AW.rseq ?_
 refine AWL.y rfl rfl (B rfl) (Yv.move rfl (E rfl rfl)) ?_
 refine AWL.nil ?_
 refine AW.cond rfl (fun h0t => ?_) (fun h0f => ?_)
 ·try replace h0t := of_decide_eq_true h0t
  cases h0t
 try replace h0f := of_decide_eq_false h0f
 refine AW.skip ?_
 refine AW.dropAt 0 ?_
 refine AW.rseqP rfl ?_
 refine AWP.phase [true, true, true, true, true, true, true, true, true] 2 rfl (by kernel_rfl) (by kernel_rfl) ?_
 refine AWQ.y rfl rfl (B rfl) (Yv.move rfl (E rfl rfl)) ?_
 refine AWQ.y rfl rfl (B rfl) (Yv.nilChk rfl (E rfl rfl)) ?_
 refine AWQ.y rfl rfl (B rfl) (Yv.fieldBox rfl fo_73_1 (E rfl rfl)) ?_
 refine AWQ.y rfl rfl (B rfl) (Yv.loadBox rfl ag_65 (i := 2) rfl (E rfl rfl) rfl) ?_
 refine AWQ.y rfl rfl (B rfl) (Yv.move rfl (E rfl rfl)) ?_
 refine AWQ.y rfl rfl (B rfl) (Yv.nilChk rfl (E rfl rfl)) ?_
 refine AWQ.y rfl rfl (B rfl) (Yv.fieldBox rfl fo_73_0 (E rfl rfl)) ?_
 refine AWQ.y rfl rfl (B rfl) (Yv.fieldBox rfl fo_71_3 (E rfl rfl)) ?_
 refine AWQ.y rfl rfl (B rfl) (Yv.loadBox rfl ag_22 (i := 2) rfl (E rfl rfl) rfl) ?_
 refine AWQ.nil ?_
 refine AWP.one (i := 9) (by kernel_rfl) rfl ?_
 refine AWL.callF rfl rfl (B rfl) rfl ce_26 (E rfl rfl) (evsC (E rfl rfl) (evsC (E rfl rfl) (evsC (E rfl rfl) (evsC (E rfl rfl) evs0)))) (F1 := [Ent.box b2 57 (insCells ⟨0, 0, 0, 0, 0, 0⟩), Ent.raw kn (.map mp c), Ent.box mb 73 (mcC s (.v (.pointer (some ⟨mm, 0, none⟩))) w (mapT kn))]) (S1 := [Ent.box mm 102 [.sl 4 (l.flatMap seg0), mapT pg]]) (F2 := memE 95 pg pgs) rfl (room26 mm (mapT pg) l s.rip 15#64 1 hs hl) ?_
 rintro t40 S40 ⟨⟨g, hrm, rfl⟩, rfl⟩
 refine AWL.nil ?_
 refine AWP.one (i := 10) (by kernel_rfl) rfl ?_
 refine AWL.y rfl rfl (B rfl) (Yv.assign rfl (E rfl rfl)) ?_
 refine AWL.nil ?_
 refine AWP.done (by kernel_rfl) ?_
 have hg := hroom g hrm
 refine AW.retype (k := 7) (t' := .v (.int .u64 (G : Int))) rfl (fun w L u h => by rw [← hg]; exact h) ?_
 refine AW.rseq ?_
 refine AWL.y rfl rfl (B rfl) (Yv.move rfl (E rfl rfl)) ?_
 refine AWL.makeRow  rfl rfl (B rfl) rfl el_27 (E rfl rfl) (E rfl rfl) (by omega) (by omega) (by unfold maxLen; omega) (fun A42 => ?_)
 refine AWL.perm (List.perm_append_singleton _ _).symm ?_
 refine AWL.y rfl rfl (B rfl) (Yv.assign rfl (E rfl rfl)) ?_
 refine AWL.nil ?_
 rw [row_0 pgs s.rip G]
 refine AW.seq ?_
 refine AW.rseq ?_
 refine AWL.y rfl rfl (B rfl) (Yv.move rfl (E rfl rfl)) ?_
 refine AWL.y rfl rfl (B rfl) (Yv.lenV rfl so_27 (E rfl rfl)) ?_
 refine AWL.y rfl rfl (B rfl) (Yv.move rfl (E rfl rfl)) ?_
 refine AWL.nil ?_
 refine AW.block ?_
 refine AW.loop (fun (j : Nat) => [(0, true, .v (.pointer (some ⟨mb, 0, none⟩))), (2, true, .v (.pointer (some ⟨b2, 0, none⟩))), (3, true, zi 0), (4, true, zi 0), (8, true, .v (.slice A42 G G)), (44, true, zi (G : Int)), (45, true, zi (j : Int))]) (fun (j : Nat) => (Ent.row A42 G G 5 1 (rowR pgs s.rip G j) :: Ent.box b2 57 (insCells ⟨0, 0, 0, 0, 0, 0⟩) :: (Ent.raw kn (.map mp c) :: Ent.box mb 73 (mcC s (.v (.pointer (some ⟨mm, 0, none⟩))) w (mapT kn)) :: Ent.box mm 102 [.sl 4 (l.flatMap seg0), mapT pg] :: memE 95 pg pgs))) (fun (j : Nat) => j ≤ G) (fun (j : Nat) => G - j) 0 ?_ ?_ ?_ ?_
 ·exact Nat.zero_le _
 ·exact (Sub.cons rfl rfl (Sub.cons rfl rfl (Sub.cons rfl rfl (Sub.cons rfl rfl (Sub.cons rfl rfl (Sub.cons rfl rfl (Sub.cons rfl rfl Sub.nil)))))))
 ·rfl
 intro j hinv
 refine AW.rseq ?_
 refine AWL.y rfl rfl (B rfl) (Yv.lss rfl (E rfl rfl) (E rfl rfl)) ?_
 refine AWL.nil ?_
 refine AW.seq ?_
 refine AW.cond rfl (fun h1t => ?_) (fun h1f => ?_)
 ·try replace h1t := of_decide_eq_true h1t
  have hj : j < G := by omega
  refine AW.skip ?_
  refine AW.seq ?_
  refine AW.block ?_
  refine AW.rseq ?_
  refine AWL.y rfl rfl (B rfl) (Yv.move rfl (E rfl rfl)) ?_
  refine AWL.y rfl rfl (B rfl) (Yv.assign rfl (E rfl rfl)) ?_
  refine AWL.nil ?_
  refine AW.regionP rfl ?_
  refine AWP.take (i := 0) rfl (by kernel_rfl) (by kernel_rfl) (by kernel_rfl) rfl rfl (B rfl) (freeMove rfl (E rfl rfl)) ?_
  refine AWP.take (i := 1) rfl (by kernel_rfl) (by kernel_rfl) (by kernel_rfl) rfl rfl (B rfl) (freeMove rfl (E rfl rfl)) ?_
  refine AWP.phase [false, false, true, true, true, true, true, true, true, true, true, true, true, true] 3 rfl (by kernel_rfl) (by kernel_rfl) ?_
  refine AWQ.y rfl rfl (B rfl) (Yv.move rfl (E rfl rfl)) ?_
  refine AWQ.y rfl rfl (B rfl) (Yv.nilChk rfl (E rfl rfl)) ?_
  refine AWQ.y rfl rfl (B rfl) (Yv.fieldBox rfl fo_73_1 (E rfl rfl)) ?_
  refine AWQ.y rfl rfl (B rfl) (Yv.loadBox rfl ag_65 (i := 3) rfl (E rfl rfl) rfl) ?_
  refine AWQ.y rfl rfl (B rfl) (Yv.move rfl (E rfl rfl)) ?_
  refine AWQ.y rfl rfl (B rfl) (Yv.nilChk rfl (E rfl rfl)) ?_
  refine AWQ.y rfl rfl (B rfl) (Yv.fieldBox rfl fo_73_0 (E rfl rfl)) ?_
  refine AWQ.y rfl rfl (B rfl) (Yv.fieldBox rfl fo_71_3 (E rfl rfl)) ?_
  refine AWQ.y rfl rfl (B rfl) (Yv.loadBox rfl ag_22 (i := 3) rfl (E rfl rfl) rfl) ?_
  refine AWQ.y rfl rfl (B rfl) (Yv.move rfl (E rfl rfl)) ?_
  refine AWQ.y rfl rfl (B rfl) (Yv.convW rfl Tryz.underlying3 kd_22 (E rfl rfl)) ?_
  refine AWQ.y rfl rfl (B rfl) (Yv.addW rfl (E rfl rfl) (E rfl rfl)) ?_
  refine AWQ.nil ?_
  refine AWP.one (i := 14) (by kernel_rfl) rfl ?_
  refine AWL.callE rfl rfl (B rfl) rfl ce_27 (E rfl rfl) (evsC (E rfl rfl) (evsC (E rfl rfl) evs0)) (F1 := [Ent.row A42 G G 5 1 (rowR pgs s.rip G j), Ent.box b2 57 (insCells ⟨0, 0, 0, 0, 0, 0⟩), Ent.raw kn (.map mp c), Ent.box mb 73 (mcC s (.v (.pointer (some ⟨mm, 0, none⟩))) w (mapT kn))]) (S1 := (Ent.box mm 102 [.sl 4 (l.flatMap seg0), mapT pg] :: memE 95 pg pgs)) rfl (get27 mm pg (.sl 4 (l.flatMap seg0)) pgs hpg (s.rip + wI (j : Int))) ?_
  rintro t62 S62 ⟨rfl, rfl⟩
  refine AWL.nil ?_
  refine AWP.one (i := 15) (by kernel_rfl) rfl ?_
  refine AWL.y rfl rfl (B rfl) (Yv.indexRow (j := j) rfl ss_27 (i := 0) rfl (E rfl rfl) (E rfl rfl) (fun hg => ⟨rfl, hj⟩)) ?_
  refine AWL.nil ?_
  refine AWP.one (i := 16) (by kernel_rfl) rfl ?_
  refine AWL.storeEp1 (i := 0) rfl rfl rfl ag_5 rfl (E rfl rfl) (E rfl rfl) rfl rfl (by rw [row_lenR]; omega) ?_
  refine AWL.nil ?_
  refine AWP.done (by kernel_rfl) ?_
  refine AW.region ?_
  refine AWL.y rfl rfl (B rfl) (Yv.addN_i64 rfl (E rfl rfl) (E rfl rfl) (fun hg => by omega)) ?_
  refine AWL.y rfl rfl (B rfl) (Yv.move rfl (E rfl rfl)) ?_
  refine AWL.nil ?_
  refine ⟨j + 1, by omega, by omega, (Sub.cons rfl rfl (Sub.cons rfl rfl (Sub.cons rfl rfl (Sub.cons rfl rfl (Sub.cons rfl rfl (Sub.cons rfl rfl (Sub.cons rfl rfl Sub.nil))))))), ?_⟩
  rw [← row_stp pgs s.rip hj]
  rfl
 try replace h1f := of_decide_eq_false h1f
 obtain rfl : j = G := by omega
 refine AW.exit ?_
 rw [row_n]
 refine AW.freeze 0 8 rfl (B rfl) rfl ?_
 refine AW.rseq ?_
 refine AWL.y rfl rfl (B rfl) (Yv.move rfl (E rfl rfl)) ?_
 refine AWL.callT rfl rfl (B rfl) rfl ce_52 (E rfl rfl) (evsC (E rfl rfl) evs0) (decK hi hn he (by rw [bytesR_len]; omega)) ?_
 rintro t67 S67 rfl
 refine AWL.y rfl rfl (B rfl) (Yv.move rfl (E rfl rfl)) ?_
 refine AWL.y rfl rfl (B rfl) (Yv.extract rfl (E rfl rfl) rfl) ?_
 refine AWL.y rfl rfl (B rfl) (Yv.extract rfl (E rfl rfl) rfl) ?_
 refine AWL.y rfl rfl (B rfl) (Yv.extract rfl (E rfl rfl) rfl) ?_
 refine AWL.allocOp rfl rfl (B rfl) rfl zc_57 (fun b10 => ?_)
 refine AWL.perm (List.perm_append_singleton _ _).symm ?_
 refine AWL.storeBox (i := 0) rfl rfl rfl ag_57 rfl (E rfl rfl) (E rfl rfl) rfl rfl (Nat.le_of_ble_eq_true rfl) ?_
 refine AWL.y rfl rfl (B rfl) (Yv.assign rfl (E rfl rfl)) ?_
 refine AWL.y rfl rfl (B rfl) (Yv.assign rfl (E rfl rfl)) ?_
 refine AWL.nil ?_
 refine AW.seq ?_
 refine AW.rseq ?_
 refine AWL.y rfl rfl (B rfl) (Yv.move rfl (E rfl rfl)) ?_
 refine AWL.nil ?_
 refine AW.block ?_
 refine AW.rseq ?_
 refine AWL.y rfl rfl (B rfl) (Yv.eql rfl (E rfl rfl) (E rfl rfl)) ?_
 refine AWL.y rfl rfl (B rfl) (Yv.assign rfl (E rfl rfl)) ?_
 refine AWL.nil ?_
 refine AW.cond rfl (fun h2t => ?_) (fun h2f => ?_)
 ·try replace h2t := of_decide_eq_true h2t
  exact absurd h2t (by decide)
 try replace h2f := of_decide_eq_false h2f
 refine AW.rseq ?_
 refine AWL.y rfl rfl (B rfl) (Yv.eql rfl (E rfl rfl) (E rfl rfl)) ?_
 refine AWL.y rfl rfl (B rfl) (Yv.assign rfl (E rfl rfl)) ?_
 refine AWL.nil ?_
 refine AW.cond rfl (fun h3t => ?_) (fun h3f => ?_)
 ·try replace h3t := of_decide_eq_true h3t
  exact absurd h3t (by decide)
 try replace h3f := of_decide_eq_false h3f
 refine AW.skip ?_
 refine AW.seq ?_
 refine AW.rseq ?_
 refine AWL.y rfl rfl (B rfl) (Yv.move rfl (E rfl rfl)) ?_
 refine AWL.y rfl rfl (B rfl) (Yv.move rfl (E rfl rfl)) ?_
 refine AWL.y rfl rfl (B rfl) (Yv.nilChk rfl (E rfl rfl)) ?_
 refine AWL.y rfl rfl (B rfl) (Yv.fieldBox rfl fo_73_0 (E rfl rfl)) ?_
 refine AWL.y rfl rfl (B rfl) (Yv.fieldBox rfl fo_71_3 (E rfl rfl)) ?_
 refine AWL.y rfl rfl (B rfl) (Yv.loadBox rfl ag_22 (i := 3) rfl (E rfl rfl) rfl) ?_
 refine AWL.y rfl rfl (B rfl) (Yv.move rfl (E rfl rfl)) ?_
 refine AWL.y rfl rfl (B rfl) (Yv.convW rfl Tryz.underlying3 kd_22 (E rfl rfl)) ?_
 refine AWL.callF rfl rfl (B rfl) rfl ce_53 (E rfl rfl) (evsC (E rfl rfl) (evsC (E rfl rfl) (evsC (E rfl rfl) evs0))) (F1 := [Ent.box b10 57 (insCells i), Ent.box b2 57 (insCells ⟨0, 0, 0, 0, 0, 0⟩), Ent.raw kn (.map mp c)]) (S1 := [Ent.box mb 73 (mcC s (.v (.pointer (some ⟨mm, 0, none⟩))) w (mapT kn)), Ent.box mm 102 [.sl 4 (l.flatMap seg0), mapT pg]]) (F2 := memE 95 pg pgs) rfl (fixed53 mb mm kn (mapT pg) s w l hs hl s.rip (wI (k : Int)) (by rw [wI_n (by omega)]; exact hfx) (by rw [wI_n (by omega)]; exact han)) ?_
 rintro t86 S86 ⟨rfl, rfl⟩
 refine AWL.nil ?_
 refine AW.cond rfl (fun h4t => ?_) (fun h4f => ?_)
 ·try replace h4t := of_decide_eq_true h4t
  refine AW.regionP rfl ?_
  refine AWP.phase [true, true, true, true, true, true, true, true, true, true, true, true] 1 rfl (by kernel_rfl) (by kernel_rfl) ?_
  refine AWQ.y rfl rfl (B rfl) (Yv.move rfl (E rfl rfl)) ?_
  refine AWQ.y rfl rfl (B rfl) (Yv.nilChk rfl (E rfl rfl)) ?_
  refine AWQ.y rfl rfl (B rfl) (Yv.fieldBox rfl fo_73_4 (E rfl rfl)) ?_
  refine AWQ.y rfl rfl (B rfl) (Yv.loadBox rfl ag_68 (i := 3) rfl (E rfl rfl) rfl) ?_
  refine AWQ.y rfl rfl (B rfl) (Yv.move rfl (E rfl rfl)) ?_
  refine AWQ.y rfl rfl (B rfl) (Yv.nilChk rfl (E rfl rfl)) ?_
  refine AWQ.y rfl rfl (B rfl) (Yv.fieldBox rfl fo_73_0 (E rfl rfl)) ?_
  refine AWQ.y rfl rfl (B rfl) (Yv.fieldBox rfl fo_71_3 (E rfl rfl)) ?_
  refine AWQ.y rfl rfl (B rfl) (Yv.loadBox rfl ag_22 (i := 3) rfl (E rfl rfl) rfl) ?_
  refine AWQ.y rfl rfl (B rfl) (Yv.loadBoxA rfl ag_57 (i := 0) rfl (E rfl rfl) rfl rfl) ?_
  refine AWQ.y rfl rfl (B rfl) (Yv.move rfl (E rfl rfl)) ?_
  refine AWQ.y rfl rfl (B rfl) (Yv.buildS rfl sh_132 (evpC (E rfl rfl) (evpC (E rfl rfl) evp0)) (fun _ => rfl)) ?_
  refine AWQ.nil ?_
  refine AWP.one (i := 12) (by kernel_rfl) rfl ?_
  refine AWL.mapNew (k := wk s.rip) (i := 2) rfl rfl (.inl rfl) mpa_68 rfl hK (E rfl rfl) (E rfl rfl) rfl (goodW kw) (wk_new hm) (fun mp2 hK2 => ?_)
  refine AWL.nil ?_
  refine AWP.done (by kernel_rfl) ?_
  refine AW.rseq ?_
  refine AWL.y rfl rfl (B rfl) (Yv.loadBoxA rfl ag_57 (i := 0) rfl (E rfl rfl) rfl rfl) ?_
  refine AWL.y rfl rfl (B rfl) (Yv.move rfl (E rfl rfl)) ?_
  refine AWL.storeBox (i := 1) rfl rfl rfl ag_57 rfl (E rfl rfl) (E rfl rfl) rfl rfl (Nat.le_of_ble_eq_true rfl) ?_
  refine AWL.y rfl rfl (B rfl) (Yv.assign rfl (E rfl rfl)) ?_
  refine AWL.y rfl rfl (B rfl) (Yv.assign rfl (E rfl rfl)) ?_
  refine AWL.nil ?_
  refine AW.ret (retI (.cellA (i := 1) rfl ag_57 rfl rfl rfl (.tmp rfl (.tmp rfl .nil))) ?_)
  exact ⟨rfl, _, _, mp2, c + 1, by rw [List.map_append]; exact hK2, rfl⟩
 try replace h4f := of_decide_eq_false h4f
 cases h4f

end Go.Proofs.YtecpjlhbkmongaaGreat.M

namespace Go.Proofs.YtecpjlhbkmongaaGreat.M
open Go Go.RowKit

set_option maxHeartbeats 4000000 in
theorem Step29 (mb mm pg kn : Nat) (s : Ms) (w : T) (l : List Seg) (pgs : List Pg) (hs : Srt l) (hl : l.length ≤ 1048576) (hpg : PgOk pgs) (kw : List Wd64) (mp : Array MapEntry) (c : Nat) (hK : KeysR (kw.map wk) mp) (hm : s.rip ∉ kw) (G : Nat) (hG : G ≤ 15) (hroom : ∀ g, Room l s.rip.toNat (15#64 : Wd64).toNat 1 g → g.toNat = G) (i : Ins) (k : Nat) (hk : k ≤ 15) (hi : decI (bytesR pgs s.rip G) = i) (hn : decN (bytesR pgs s.rip G) = k) (he : decE (bytesR pgs s.rip G) = 0) (hfx : ∀ j, j < k → ¬ okB l 2 (s.rip.toNat + j)) (han : s.rip.toNat + k ≤ 18446744073709551615) (hs0 : s.stop = 0) (st : Int) (hst : st = 0 ∨ st = 1) (P2 : Ms → Prop) (hq : ∀ s2, P2 s2 → 0 ≤ s2.steps ∧ s2.steps ≤ 1000) (hdo : ACalls Tryz.prog 41 [.v (.pointer (some ⟨mb, 0, none⟩)), insT i] [Ent.box mb 73 (mcC ({ s with rip := s.rip + wI (k : Int) }) (.v (.pointer (some ⟨mm, 0, none⟩))) w (mapT kn))] (fun t S => t = zi st ∧ ∃ s2, P2 s2 ∧ S = [Ent.box mb 73 (mcC (s2) (.v (.pointer (some ⟨mm, 0, none⟩))) w (mapT kn))])) :
    ACalls Tryz.prog 29 [.v (.pointer (some ⟨mb, 0, none⟩))] (Ent.raw kn (.map mp c) :: Ent.box mb 73 (mcC (s) (.v (.pointer (some ⟨mm, 0, none⟩))) w (mapT kn)) :: Ent.box mm 102 [.sl 4 (l.flatMap seg0), mapT pg] :: memE 95 pg pgs) (fun t S => t = zi st ∧ ∃ (s2 : Ms) (mp2 : Array MapEntry) (c2 : Nat), P2 s2 ∧ KeysR ((kw ++ [s.rip]).map wk) mp2 ∧ S = (Ent.raw kn (.map mp2 c2) :: Ent.box mb 73 (mcC ({ s2 with stop := st, steps := s2.steps + 1 }) (.v (.pointer (some ⟨mm, 0, none⟩))) w (mapT kn)) :: Ent.box mm 102 [.sl 4 (l.flatMap seg0), mapT pg] :: memE 95 pg pgs)) := by
 refine ACalls.intro Tryz.func29 rfl Tryz.ntmps29 (Nat.le_of_ble_eq_true rfl) rfl fun X w0 => ?_
 refine AW.rseq ?_
 refine AWL.y rfl rfl (B rfl) (Yv.assign rfl (E rfl rfl)) ?_
 refine AWL.nil ?_
 refine AW.seq ?_
 refine AW.rseq ?_
 refine AWL.y rfl rfl (B rfl) (Yv.move rfl (E rfl rfl)) ?_
 refine AWL.y rfl rfl (B rfl) (Yv.eqlNilP rfl pn_30 (E rfl rfl)) ?_
 refine AWL.nil ?_
 refine AW.cond rfl (fun h0t => ?_) (fun h0f => ?_)
 ·try replace h0t := of_decide_eq_true h0t
  cases h0t
 try replace h0f := of_decide_eq_false h0f
 refine AW.skip ?_
 refine AW.seq ?_
 refine AW.rseq ?_
 refine AWL.y rfl rfl (B rfl) (Yv.move rfl (E rfl rfl)) ?_
 refine AWL.y rfl rfl (B rfl) (Yv.nilChk rfl (E rfl rfl)) ?_
 refine AWL.y rfl rfl (B rfl) (Yv.fieldBox rfl fo_73_0 (E rfl rfl)) ?_
 refine AWL.y rfl rfl (B rfl) (Yv.fieldBox rfl fo_71_4 (E rfl rfl)) ?_
 refine AWL.y rfl rfl (B rfl) (Yv.loadBox rfl ag_3 (i := 1) rfl (E rfl rfl) rfl) ?_
 refine AWL.y rfl rfl (B rfl) (Yv.neq rfl (E rfl rfl) (E rfl rfl)) ?_
 refine AWL.nil ?_
 refine AW.cond rfl (fun h1t => ?_) (fun h1f => ?_)
 ·try replace h1t := of_decide_eq_true h1t
  rw [hs0] at h1t; cases h1t
 try replace h1f := of_decide_eq_false h1f
 refine AW.skip ?_
 refine AW.rseq ?_
 refine AWL.y rfl rfl (B rfl) (Yv.move rfl (E rfl rfl)) ?_
 refine AWL.callE rfl rfl (B rfl) rfl ce_40 (E rfl rfl) (evsC (E rfl rfl) evs0) (F1 := []) (S1 := (Ent.raw kn (.map mp c) :: Ent.box mb 73 (mcC (s) (.v (.pointer (some ⟨mm, 0, none⟩))) w (mapT kn)) :: Ent.box mm 102 [.sl 4 (l.flatMap seg0), mapT pg] :: memE 95 pg pgs)) rfl (fetch40 mb mm pg kn s w l pgs hs hl hpg kw mp c hK hm G hG hroom i k hk hi hn he hfx han) ?_
 rintro t22 S22 ⟨rfl, E1, E2, mp2, c2, hK2, rfl⟩
 refine AWL.y rfl rfl (B rfl) (Yv.move rfl (E rfl rfl)) ?_
 refine AWL.y rfl rfl (B rfl) (Yv.extract rfl (E rfl rfl) rfl) ?_
 refine AWL.y rfl rfl (B rfl) (Yv.extract rfl (E rfl rfl) rfl) ?_
 refine AWL.y rfl rfl (B rfl) (Yv.extract rfl (E rfl rfl) rfl) ?_
 refine AWL.allocOp rfl rfl (B rfl) rfl zc_57 (fun b3 => ?_)
 refine AWL.perm (List.perm_append_singleton _ _).symm ?_
 refine AWL.storeBox (i := 0) rfl rfl rfl ag_57 rfl (E rfl rfl) (E rfl rfl) rfl rfl (Nat.le_of_ble_eq_true rfl) ?_
 refine AWL.y rfl rfl (B rfl) (Yv.assign rfl (E rfl rfl)) ?_
 refine AWL.y rfl rfl (B rfl) (Yv.assign rfl (E rfl rfl)) ?_
 refine AWL.nil ?_
 refine AW.eqS (S' := Ent.box b3 57 (insCells i) :: E1 :: E2 :: (Ent.raw kn (.map mp2 c2) :: Ent.box mb 73 (mcC (s) (.v (.pointer (some ⟨mm, 0, none⟩))) w (mapT kn)) :: Ent.box mm 102 [.sl 4 (l.flatMap seg0), mapT pg] :: memE 95 pg pgs)) rfl ?_
 refine AW.dropAt 1 ?_
 refine AW.dropAt 1 ?_
 refine AW.seq ?_
 refine AW.rseq ?_
 refine AWL.y rfl rfl (B rfl) (Yv.move rfl (E rfl rfl)) ?_
 refine AWL.y rfl rfl (B rfl) (Yv.neq rfl (E rfl rfl) (E rfl rfl)) ?_
 refine AWL.nil ?_
 refine AW.cond rfl (fun h2t => ?_) (fun h2f => ?_)
 ·try replace h2t := of_decide_eq_true h2t
  cases h2t
 try replace h2f := of_decide_eq_false h2f
 refine AW.skip ?_
 refine AW.rseq ?_
 refine AWL.y rfl rfl (B rfl) (Yv.move rfl (E rfl rfl)) ?_
 refine AWL.y rfl rfl (B rfl) (Yv.nilChk rfl (E rfl rfl)) ?_
 refine AWL.y rfl rfl (B rfl) (Yv.fieldBox rfl fo_73_0 (E rfl rfl)) ?_
 refine AWL.y rfl rfl (B rfl) (Yv.loadBoxA rfl ag_71 (i := 2) rfl (E rfl rfl) rfl rfl) ?_
 refine AWL.allocOp rfl rfl (B rfl) rfl zc_71 (fun b6 => ?_)
 refine AWL.perm (List.perm_append_singleton _ _).symm ?_
 refine AWL.storeBox (i := 0) rfl rfl rfl ag_71 rfl (E rfl rfl) (E rfl rfl) rfl rfl (Nat.le_of_ble_eq_true rfl) ?_
 refine AWL.nil ?_
 refine AW.dropAt 0 ?_
 refine AW.rseq ?_
 refine AWL.y rfl rfl (B rfl) (Yv.move rfl (E rfl rfl)) ?_
 refine AWL.y rfl rfl (B rfl) (Yv.nilChk rfl (E rfl rfl)) ?_
 refine AWL.y rfl rfl (B rfl) (Yv.fieldBox rfl fo_73_0 (E rfl rfl)) ?_
 refine AWL.y rfl rfl (B rfl) (Yv.fieldBox rfl fo_71_3 (E rfl rfl)) ?_
 refine AWL.y rfl rfl (B rfl) (Yv.loadBox rfl ag_22 (i := 2) rfl (E rfl rfl) rfl) ?_
 refine AWL.y rfl rfl (B rfl) (Yv.move rfl (E rfl rfl)) ?_
 refine AWL.y rfl rfl (B rfl) (Yv.convW rfl Tryz.underlying3 kd_22 (E rfl rfl)) ?_
 refine AWL.y rfl rfl (B rfl) (Yv.addW rfl (E rfl rfl) (E rfl rfl)) ?_
 refine AWL.y rfl rfl (B rfl) (Yv.nilChk rfl (E rfl rfl)) ?_
 refine AWL.y rfl rfl (B rfl) (Yv.fieldBox rfl fo_73_0 (E rfl rfl)) ?_
 refine AWL.y rfl rfl (B rfl) (Yv.fieldBox rfl fo_71_3 (E rfl rfl)) ?_
 refine AWL.storeBox (i := 2) rfl rfl rfl ag_22 rfl (E rfl rfl) (E rfl rfl) rfl rfl (Nat.le_of_ble_eq_true rfl) ?_
 refine AWL.nil ?_
 refine AW.eqS (S' := Ent.box b3 57 (insCells i) :: (Ent.raw kn (.map mp2 c2) :: Ent.box mb 73 (mcC ({ s with rip := s.rip + wI (k : Int) }) (.v (.pointer (some ⟨mm, 0, none⟩))) w (mapT kn)) :: Ent.box mm 102 [.sl 4 (l.flatMap seg0), mapT pg] :: memE 95 pg pgs)) rfl ?_
 refine AW.seq ?_
 refine AW.rseq ?_
 refine AWL.y rfl rfl (B rfl) (Yv.move rfl (E rfl rfl)) ?_
 refine AWL.y rfl rfl (B rfl) (Yv.loadBoxA rfl ag_57 (i := 0) rfl (E rfl rfl) rfl rfl) ?_
 refine AWL.callF rfl rfl (B rfl) rfl ce_41 (E rfl rfl) (evsC (E rfl rfl) (evsC (E rfl rfl) evs0)) (F1 := [Ent.box b3 57 (insCells i), Ent.raw kn (.map mp2 c2)]) (S1 := [Ent.box mb 73 (mcC ({ s with rip := s.rip + wI (k : Int) }) (.v (.pointer (some ⟨mm, 0, none⟩))) w (mapT kn))]) (F2 := (Ent.box mm 102 [.sl 4 (l.flatMap seg0), mapT pg] :: memE 95 pg pgs)) rfl (hdo) ?_
 rintro t51 S51 ⟨rfl, s2, hP2, rfl⟩
 refine AWL.y rfl rfl (B rfl) (Yv.assign rfl (E rfl rfl)) ?_
 refine AWL.nil ?_
 obtain ⟨hq1, hq2⟩ := hq s2 hP2
 refine AW.rseq ?_
 refine AWL.y rfl rfl (B rfl) (Yv.move rfl (E rfl rfl)) ?_
 refine AWL.y rfl rfl (B rfl) (Yv.neq rfl (E rfl rfl) (E rfl rfl)) ?_
 refine AWL.y rfl rfl (B rfl) (Yv.move rfl (E rfl rfl)) ?_
 refine AWL.ygT rfl rfl rfl rfl (B rfl) (Yv.move rfl (E rfl rfl)) ?_
 refine AWL.ygT rfl rfl rfl rfl (B rfl) (Yv.neq rfl (Eg rfl rfl id) (E rfl rfl)) ?_
 refine AWL.y rfl rfl (B rfl) (Yv.pickAnd rfl (E rfl rfl) (Eg rfl rfl id)) ?_
 refine AWL.nil ?_
 refine AW.cond rfl (fun h3t => ?_) (fun h3f => ?_)
 ·try replace h3t := of_decide_eq_true h3t
  rcases hst with rfl | rfl <;> simp at h3t
 try replace h3f := of_decide_eq_false h3f
 refine AW.skip ?_
 refine AW.rseq ?_
 refine AWL.y rfl rfl (B rfl) (Yv.move rfl (E rfl rfl)) ?_
 refine AWL.y rfl rfl (B rfl) (Yv.move rfl (E rfl rfl)) ?_
 refine AWL.y rfl rfl (B rfl) (Yv.nilChk rfl (E rfl rfl)) ?_
 refine AWL.y rfl rfl (B rfl) (Yv.fieldBox rfl fo_73_0 (E rfl rfl)) ?_
 refine AWL.y rfl rfl (B rfl) (Yv.fieldBox rfl fo_71_4 (E rfl rfl)) ?_
 refine AWL.storeBox (i := 2) rfl rfl rfl ag_3 rfl (E rfl rfl) (E rfl rfl) rfl rfl (Nat.le_of_ble_eq_true rfl) ?_
 refine AWL.nil ?_
 refine AW.rseq ?_
 refine AWL.y rfl rfl (B rfl) (Yv.move rfl (E rfl rfl)) ?_
 refine AWL.y rfl rfl (B rfl) (Yv.nilChk rfl (E rfl rfl)) ?_
 refine AWL.y rfl rfl (B rfl) (Yv.fieldBox rfl fo_73_3 (E rfl rfl)) ?_
 refine AWL.y rfl rfl (B rfl) (Yv.loadBox rfl ag_3 (i := 2) rfl (E rfl rfl) rfl) ?_
 refine AWL.y rfl rfl (B rfl) (Yv.addN_i64 rfl (E rfl rfl) (E rfl rfl) (fun hg => by omega)) ?_
 refine AWL.y rfl rfl (B rfl) (Yv.nilChk rfl (E rfl rfl)) ?_
 refine AWL.y rfl rfl (B rfl) (Yv.fieldBox rfl fo_73_3 (E rfl rfl)) ?_
 refine AWL.storeBox (i := 2) rfl rfl rfl ag_3 rfl (E rfl rfl) (E rfl rfl) rfl rfl (Nat.le_of_ble_eq_true rfl) ?_
 refine AWL.nil ?_
 refine AW.dropAt 0 ?_
 refine AW.rseq ?_
 refine AWL.y rfl rfl (B rfl) (Yv.move rfl (E rfl rfl)) ?_
 refine AWL.y rfl rfl (B rfl) (Yv.assign rfl (E rfl rfl)) ?_
 refine AWL.nil ?_
 refine AW.ret (retI (.tmp rfl .nil) ?_)
 exact ⟨rfl, s2, mp2, c2, hP2, hK2, rfl⟩

theorem run_go {Φ : Nat → Ms → List Wd64 → Prop} {m n j : Nat} {s : Ms} {kw : List Wd64} (hjm : j ≤ m) (hend : n = m ∨ ∀ s kw, Φ m s kw → s.stop ≠ 0) (hP : Φ j s kw) (h : (decide (0 < (n : Int) - (j : Int)) && decide (s.stop = 0)) = true) : j < m := by
 simp only [Bool.and_eq_true, decide_eq_true_eq] at h
 rcases Nat.lt_or_ge j m with q | q
 ·exact q
 obtain rfl : j = m := by omega
 rcases hend with e | e
 ·omega
 exact absurd h.2 (e s kw hP)
theorem run_no {m n j : Nat} {s : Ms} (hjm : j ≤ m) (hmn : m ≤ n) (hl : j < m → s.stop = 0) (h : (decide (0 < (n : Int) - (j : Int)) && decide (s.stop = 0)) = false) : j = m := by
 rcases Nat.lt_or_ge j m with q | q
 ·rw [hl q] at h
  simp at h
  omega
 omega
set_option maxHeartbeats 2000000 in
theorem Run21 (mb mm pg kn : Nat) (w : T) (l : List Seg) (pgs : List Pg) (Φ : Nat → Ms → List Wd64 → Prop) (m n : Nat) (hmn : m ≤ n) (hn : n ≤ 1000) (st : Nat → Int) (hlive : ∀ i s kw, i < m → Φ i s kw → s.stop = 0) (hend : n = m ∨ ∀ s kw, Φ m s kw → s.stop ≠ 0) (hstep : ∀ i s kw mp c, i < m → Φ i s kw → KeysR (kw.map wk) mp → ACalls Tryz.prog 29 [.v (.pointer (some ⟨mb, 0, none⟩))] (Ent.raw kn (.map mp c) :: Ent.box mb 73 (mcC (s) (.v (.pointer (some ⟨mm, 0, none⟩))) w (mapT kn)) :: Ent.box mm 102 [.sl 4 (l.flatMap seg0), mapT pg] :: memE 95 pg pgs) (fun t S => ∃ s2 kw2 mp2 c2, Φ (i + 1) s2 kw2 ∧ KeysR (kw2.map wk) mp2 ∧ S = (Ent.raw kn (.map mp2 c2) :: Ent.box mb 73 (mcC (s2) (.v (.pointer (some ⟨mm, 0, none⟩))) w (mapT kn)) :: Ent.box mm 102 [.sl 4 (l.flatMap seg0), mapT pg] :: memE 95 pg pgs))) (s : Ms) (kw : List Wd64) (mp : Array MapEntry) (c : Nat) (h0 : Φ 0 s kw) (hK : KeysR (kw.map wk) mp) :
    ACalls Tryz.prog 21 [.v (.pointer (some ⟨mb, 0, none⟩)), zi (n : Int)] (Ent.raw kn (.map mp c) :: Ent.box mb 73 (mcC (s) (.v (.pointer (some ⟨mm, 0, none⟩))) w (mapT kn)) :: Ent.box mm 102 [.sl 4 (l.flatMap seg0), mapT pg] :: memE 95 pg pgs) (fun t S => ∃ s2 kw2 mp2 c2, t = zi s2.stop ∧ Φ m s2 kw2 ∧ KeysR (kw2.map wk) mp2 ∧ S = (Ent.raw kn (.map mp2 c2) :: Ent.box mb 73 (mcC (s2) (.v (.pointer (some ⟨mm, 0, none⟩))) w (mapT kn)) :: Ent.box mm 102 [.sl 4 (l.flatMap seg0), mapT pg] :: memE 95 pg pgs)) := by
 refine ACalls.intro Tryz.func21 rfl Tryz.ntmps21 (Nat.le_of_ble_eq_true rfl) rfl fun X w0 => ?_
 refine AW.rseq ?_
 refine AWL.y rfl rfl (B rfl) (Yv.assign rfl (E rfl rfl)) ?_
 refine AWL.nil ?_
 refine AW.seq ?_
 refine AW.rseq ?_
 refine AWL.y rfl rfl (B rfl) (Yv.move rfl (E rfl rfl)) ?_
 refine AWL.y rfl rfl (B rfl) (Yv.eqlNilP rfl pn_30 (E rfl rfl)) ?_
 refine AWL.nil ?_
 refine AW.cond rfl (fun h0t => ?_) (fun h0f => ?_)
 ·try replace h0t := of_decide_eq_true h0t
  cases h0t
 try replace h0f := of_decide_eq_false h0f
 refine AW.skip ?_
 refine AW.seq ?_
 refine AW.block ?_
 refine AW.loop5 (fun (j : Nat) (s : Ms) (kw : List Wd64) (mp : Array MapEntry) (c : Nat) => [(0, true, .v (.pointer (some ⟨mb, 0, none⟩))), (1, true, zi (n - j : Int)), (4, true, zi 0)]) (fun (j : Nat) (s : Ms) (kw : List Wd64) (mp : Array MapEntry) (c : Nat) => (Ent.raw kn (.map mp c) :: Ent.box mb 73 (mcC (s) (.v (.pointer (some ⟨mm, 0, none⟩))) w (mapT kn)) :: Ent.box mm 102 [.sl 4 (l.flatMap seg0), mapT pg] :: memE 95 pg pgs)) (fun (j : Nat) (s : Ms) (kw : List Wd64) (mp : Array MapEntry) (c : Nat) => j ≤ m ∧ Φ j s kw ∧ KeysR (kw.map wk) mp) (fun (j : Nat) (s : Ms) (kw : List Wd64) (mp : Array MapEntry) (c : Nat) => m - j) 0 s kw mp c ?_ ?_ ?_ ?_
 ·exact ⟨Nat.zero_le _, h0, hK⟩
 ·exact (Sub.cons rfl rfl (Sub.cons rfl rfl (Sub.cons rfl rfl Sub.nil)))
 ·rfl
 intro j s kw mp c ⟨hjm, hP, hK⟩
 refine AW.seq ?_
 refine AW.rseq ?_
 refine AWL.y rfl rfl (B rfl) (Yv.move rfl (E rfl rfl)) ?_
 refine AWL.y rfl rfl (B rfl) (Yv.gtr rfl (E rfl rfl) (E rfl rfl)) ?_
 refine AWL.y rfl rfl (B rfl) (Yv.move rfl (E rfl rfl)) ?_
 refine AWL.ygT rfl rfl rfl rfl (B rfl) (Yv.move rfl (E rfl rfl)) ?_
 refine AWL.ygT rfl rfl rfl rfl (B rfl) (Yv.nilChk rfl (Eg rfl rfl id)) ?_
 refine AWL.ygT rfl rfl rfl rfl (B rfl) (Yv.fieldBox rfl fo_73_0 (Eg rfl rfl id)) ?_
 refine AWL.ygT rfl rfl rfl rfl (B rfl) (Yv.fieldBox rfl fo_71_4 (Eg rfl rfl id)) ?_
 refine AWL.ygT rfl rfl rfl rfl (B rfl) (Yv.loadBox rfl ag_3 (i := 1) rfl (Eg rfl rfl id) rfl) ?_
 refine AWL.ygT rfl rfl rfl rfl (B rfl) (Yv.eql rfl (Eg rfl rfl id) (E rfl rfl)) ?_
 refine AWL.y rfl rfl (B rfl) (Yv.pickAnd rfl (E rfl rfl) (Eg rfl rfl id)) ?_
 refine AWL.nil ?_
 refine AW.cond rfl (fun h1t => ?_) (fun h1f => ?_)
 ·try replace h1t := of_decide_eq_true h1t
  have hj : j < m := run_go hjm hend hP h1t
  refine AW.skip ?_
  refine AW.seq ?_
  refine AW.block ?_
  refine AW.region ?_
  refine AWL.y rfl rfl (B rfl) (Yv.move rfl (E rfl rfl)) ?_
  refine AWL.callE rfl rfl (B rfl) rfl ce_29 (E rfl rfl) (evsC (E rfl rfl) evs0) (F1 := []) (S1 := (Ent.raw kn (.map mp c) :: Ent.box mb 73 (mcC (s) (.v (.pointer (some ⟨mm, 0, none⟩))) w (mapT kn)) :: Ent.box mm 102 [.sl 4 (l.flatMap seg0), mapT pg] :: memE 95 pg pgs)) rfl (hstep j s kw mp c hj hP hK) ?_
  rintro t20 S20 ⟨s2, kw2, mp2, c2, hP2, hK2, rfl⟩
  refine AWL.nil ?_
  refine AW.region ?_
  refine AWL.y rfl rfl (B rfl) (Yv.move rfl (E rfl rfl)) ?_
  refine AWL.y rfl rfl (B rfl) (Yv.subN_i64 rfl (E rfl rfl) (E rfl rfl) (fun hg => by omega)) ?_
  refine AWL.y rfl rfl (B rfl) (Yv.assign rfl (E rfl rfl)) ?_
  refine AWL.nil ?_
  exact ⟨j + 1, s2, kw2, mp2, c2, ⟨by omega, hP2, hK2⟩, by omega, (Sub.cons rfl rfl (Sub.cons rfl (congrArg zi (by omega)) (Sub.cons rfl rfl Sub.nil))), rfl⟩
 try replace h1f := of_decide_eq_false h1f
 obtain rfl : j = m := run_no hjm hmn (fun q => hlive j s kw q hP) h1f
 refine AW.exit ?_
 refine AW.rseq ?_
 refine AWL.y rfl rfl (B rfl) (Yv.move rfl (E rfl rfl)) ?_
 refine AWL.y rfl rfl (B rfl) (Yv.nilChk rfl (E rfl rfl)) ?_
 refine AWL.y rfl rfl (B rfl) (Yv.fieldBox rfl fo_73_0 (E rfl rfl)) ?_
 refine AWL.y rfl rfl (B rfl) (Yv.fieldBox rfl fo_71_4 (E rfl rfl)) ?_
 refine AWL.y rfl rfl (B rfl) (Yv.loadBox rfl ag_3 (i := 1) rfl (E rfl rfl) rfl) ?_
 refine AWL.y rfl rfl (B rfl) (Yv.assign rfl (E rfl rfl)) ?_
 refine AWL.nil ?_
 refine AW.ret (retI (.tmp rfl .nil) ?_)
 exact ⟨s, kw, mp, c, rfl, hP, hK, rfl⟩

end Go.Proofs.YtecpjlhbkmongaaGreat.M

namespace Go.Proofs.YtecpjlhbkmongaaGreat.M
open Go Go.RowKit

def cells0 (code : List UInt8) : List T := [zw 268435456#64, zw 512#64, zi 6, .v (.slice none 0 0), zw 4194304#64, zw (wI (code.length : Int) + 1#64), zi 5, .sl 1 (code.map u8), zw 536870912#64, zw 64#64, zi 4, .v (.slice none 0 0), zw 139637976727296#64, zw 256#64, zi 6, .v (.slice none 0 0)]
set_option maxHeartbeats 4000000 in
theorem loaded20 (code : List UInt8) (hc : code.length ≤ 65536) :
    ACalls Tryz.prog 20 [.agg [.v (.slice none 0 0), .v (.slice none 0 0), bv false, bv false, bv false, bv false, bv false, .sl 1 (code.map u8), .v (.slice none 0 0), .v (.slice none 0 0), sv [], .v (.slice none 0 0)]] [] (fun t S => t = .agg [zw 4194304#64, .sl 4 (cells0 code)]) := by
 refine ACalls.intro Tryz.func20 rfl Tryz.ntmps20 (Nat.le_of_ble_eq_true rfl) rfl fun X w0 => ?_
 refine AW.rseq ?_
 refine AWL.boxOp rfl rfl (B rfl) rfl (E rfl rfl) rfl (fun b1 => ?_)
 refine AWL.allocOp rfl rfl (B rfl) rfl zc_25 (fun b2 => ?_)
 refine AWL.nil ?_
 refine AW.rseq ?_
 refine AWL.y rfl rfl (B rfl) (Yv.fieldBox rfl fo_62_4 (E rfl rfl)) ?_
 refine AWL.y rfl rfl (B rfl) (Yv.loadBox rfl ag_27 (i := 0) rfl (E rfl rfl) rfl) ?_
 refine AWL.y rfl rfl (B rfl) (Yv.assign rfl (E rfl rfl)) ?_
 refine AWL.nil ?_
 refine AW.seq ?_
 refine AW.rseq ?_
 refine AWL.y rfl rfl (B rfl) (Yv.move rfl (E rfl rfl)) ?_
 refine AWL.y rfl rfl (B rfl) (Yv.lenV rfl so_27 (E rfl rfl)) ?_
 refine AWL.y rfl rfl (B rfl) (Yv.gtr rfl (E rfl rfl) (E rfl rfl)) ?_
 refine AWL.nil ?_
 refine AW.cond rfl (fun h0t => ?_) (fun h0f => ?_)
 ·try replace h0t := of_decide_eq_true h0t
  exact absurd h0t (by decide)
 try replace h0f := of_decide_eq_false h0f
 refine AW.skip ?_
 refine AW.rseq ?_
 refine AWL.y rfl rfl (B rfl) (Yv.fieldBox rfl fo_62_5 (E rfl rfl)) ?_
 refine AWL.y rfl rfl (B rfl) (Yv.loadBox rfl ag_27 (i := 0) rfl (E rfl rfl) rfl) ?_
 refine AWL.y rfl rfl (B rfl) (Yv.assign rfl (E rfl rfl)) ?_
 refine AWL.nil ?_
 refine AW.seq ?_
 refine AW.rseq ?_
 refine AWL.y rfl rfl (B rfl) (Yv.move rfl (E rfl rfl)) ?_
 refine AWL.y rfl rfl (B rfl) (Yv.lenV rfl so_27 (E rfl rfl)) ?_
 refine AWL.y rfl rfl (B rfl) (Yv.gtr rfl (E rfl rfl) (E rfl rfl)) ?_
 refine AWL.nil ?_
 refine AW.cond rfl (fun h1t => ?_) (fun h1f => ?_)
 ·try replace h1t := of_decide_eq_true h1t
  exact absurd h1t (by decide)
 try replace h1f := of_decide_eq_false h1f
 refine AW.skip ?_
 refine AW.rseq ?_
 refine AWL.y rfl rfl (B rfl) (Yv.fieldBox rfl fo_62_3 (E rfl rfl)) ?_
 refine AWL.y rfl rfl (B rfl) (Yv.loadBox rfl ag_27 (i := 0) rfl (E rfl rfl) rfl) ?_
 refine AWL.y rfl rfl (B rfl) (Yv.assign rfl (E rfl rfl)) ?_
 refine AWL.nil ?_
 refine AW.seq ?_
 refine AW.rseq ?_
 refine AWL.y rfl rfl (B rfl) (Yv.move rfl (E rfl rfl)) ?_
 refine AWL.y rfl rfl (B rfl) (Yv.lenSl rfl so_27 (B rfl) (E rfl rfl) len_u8t) ?_
 refine AWL.y rfl rfl (B rfl) (Yv.gtr rfl (E rfl rfl) (E rfl rfl)) ?_
 refine AWL.nil ?_
 refine AW.cond rfl (fun h2t => ?_) (fun h2f => ?_)
 ·try replace h2t := of_decide_eq_true h2t
  omega
 try replace h2f := of_decide_eq_false h2f
 refine AW.skip ?_
 refine AW.rseq ?_
 refine AWL.y rfl rfl (B rfl) (Yv.buildS rfl sh_25 (evpC (E rfl rfl) evp0) (fun _ => rfl)) ?_
 refine AWL.allocOp rfl rfl (B rfl) rfl zc_25 (fun b6 => ?_)
 refine AWL.storeBox (i := 2) rfl rfl rfl ag_25 rfl (E rfl rfl) (E rfl rfl) rfl rfl (Nat.le_of_ble_eq_true rfl) ?_
 refine AWL.nil ?_
 refine AW.rowNil 29 4 ?_
 refine AW.rseq ?_
 refine AWL.y rfl rfl (B rfl) (Yv.fieldBox rfl fo_25_1 (E rfl rfl)) ?_
 refine AWL.y rfl rfl (B rfl) (Yv.loadBox rfl ag_23 (i := 2) rfl (E rfl rfl) rfl) ?_
 refine AWL.y rfl rfl (B rfl) (Yv.move rfl (E rfl rfl)) ?_
 refine AWL.y rfl rfl (B rfl) (Yv.buildS rfl sh_29 (evpC (E rfl rfl) (evpC (E rfl rfl) (evpC (E rfl rfl) (evpC (E rfl rfl) evp0)))) (fun _ => rfl)) ?_
 refine AWL.buildSliceE rfl rfl (B rfl) rfl el_23 (B rfl) rfl (evsC (E rfl rfl) evs0) (Nat.le_of_ble_eq_true rfl) rfl rfl ?_
 refine AWL.appendRow (i := 3) rfl rfl (B rfl) rfl el_23 (B rfl) rfl (E rfl rfl) (SrcT.sl so_23 (B rfl) (E rfl rfl) rfl) (by unfold maxLen; omega) (by omega) (fun A34 c34 => ?_)
 refine AWL.y rfl rfl (B rfl) (Yv.fieldBox rfl fo_25_1 (E rfl rfl)) ?_
 refine AWL.storeBox (i := 2) rfl rfl rfl ag_23 rfl (E rfl rfl) (E rfl rfl) rfl rfl (Nat.le_of_ble_eq_true rfl) ?_
 refine AWL.nil ?_
 refine AW.rseq ?_
 refine AWL.y rfl rfl (B rfl) (Yv.fieldBox rfl fo_25_1 (E rfl rfl)) ?_
 refine AWL.y rfl rfl (B rfl) (Yv.loadBox rfl ag_23 (i := 2) rfl (E rfl rfl) rfl) ?_
 refine AWL.y rfl rfl (B rfl) (Yv.move rfl (E rfl rfl)) ?_
 refine AWL.y rfl rfl (B rfl) (Yv.lenSl rfl so_27 (B rfl) (E rfl rfl) len_u8t) ?_
 refine AWL.y rfl rfl (B rfl) (Yv.convW rfl Tryz.underlying3 kd_22 (E rfl rfl)) ?_
 refine AWL.y rfl rfl (B rfl) (Yv.addW (b := 1#64) rfl (E rfl rfl) (E rfl rfl)) ?_
 refine AWL.y rfl rfl (B rfl) (Yv.move rfl (E rfl rfl)) ?_
 refine AWL.y rfl rfl (B rfl) (Yv.buildS rfl sh_29 (evpC (E rfl rfl) (evpC (E rfl rfl) (evpC (E rfl rfl) (evpC (E rfl rfl) evp0)))) (fun _ => rfl)) ?_
 refine AWL.buildSliceE rfl rfl (B rfl) rfl el_23 (B rfl) rfl (evsC (E rfl rfl) evs0) (Nat.le_of_ble_eq_true rfl) rfl rfl ?_
 refine AWL.appendRow (i := 3) rfl rfl (B rfl) rfl el_23 (B rfl) rfl (E rfl rfl) (SrcT.sl so_23 (B rfl) (E rfl rfl) rfl) (by unfold maxLen; omega) (by omega) (fun A45 c45 => ?_)
 refine AWL.y rfl rfl (B rfl) (Yv.fieldBox rfl fo_25_1 (E rfl rfl)) ?_
 refine AWL.storeBox (i := 2) rfl rfl rfl ag_23 rfl (E rfl rfl) (E rfl rfl) rfl rfl (Nat.le_of_ble_eq_true rfl) ?_
 refine AWL.nil ?_
 refine AW.rseq ?_
 refine AWL.y rfl rfl (B rfl) (Yv.fieldBox rfl fo_25_1 (E rfl rfl)) ?_
 refine AWL.y rfl rfl (B rfl) (Yv.loadBox rfl ag_23 (i := 2) rfl (E rfl rfl) rfl) ?_
 refine AWL.y rfl rfl (B rfl) (Yv.move rfl (E rfl rfl)) ?_
 refine AWL.y rfl rfl (B rfl) (Yv.buildS rfl sh_29 (evpC (E rfl rfl) (evpC (E rfl rfl) (evpC (E rfl rfl) (evpC (E rfl rfl) evp0)))) (fun _ => rfl)) ?_
 refine AWL.buildSliceE rfl rfl (B rfl) rfl el_23 (B rfl) rfl (evsC (E rfl rfl) evs0) (Nat.le_of_ble_eq_true rfl) rfl rfl ?_
 refine AWL.appendRow (i := 3) rfl rfl (B rfl) rfl el_23 (B rfl) rfl (E rfl rfl) (SrcT.sl so_23 (B rfl) (E rfl rfl) rfl) (by unfold maxLen; omega) (by omega) (fun A52 c52 => ?_)
 refine AWL.y rfl rfl (B rfl) (Yv.fieldBox rfl fo_25_1 (E rfl rfl)) ?_
 refine AWL.storeBox (i := 2) rfl rfl rfl ag_23 rfl (E rfl rfl) (E rfl rfl) rfl rfl (Nat.le_of_ble_eq_true rfl) ?_
 refine AWL.nil ?_
 refine AW.rseq ?_
 refine AWL.y rfl rfl (B rfl) (Yv.fieldBox rfl fo_25_1 (E rfl rfl)) ?_
 refine AWL.y rfl rfl (B rfl) (Yv.loadBox rfl ag_23 (i := 2) rfl (E rfl rfl) rfl) ?_
 refine AWL.y rfl rfl (B rfl) (Yv.buildS rfl sh_29 (evpC (E rfl rfl) (evpC (E rfl rfl) (evpC (E rfl rfl) evp0))) (fun _ => rfl)) ?_
 refine AWL.buildSliceE rfl rfl (B rfl) rfl el_23 (B rfl) rfl (evsC (E rfl rfl) evs0) (Nat.le_of_ble_eq_true rfl) rfl rfl ?_
 refine AWL.appendRow (i := 3) rfl rfl (B rfl) rfl el_23 (B rfl) rfl (E rfl rfl) (SrcT.sl so_23 (B rfl) (E rfl rfl) rfl) (by unfold maxLen; omega) (by omega) (fun A58 c58 => ?_)
 refine AWL.y rfl rfl (B rfl) (Yv.fieldBox rfl fo_25_1 (E rfl rfl)) ?_
 refine AWL.storeBox (i := 2) rfl rfl rfl ag_23 rfl (E rfl rfl) (E rfl rfl) rfl rfl (Nat.le_of_ble_eq_true rfl) ?_
 refine AWL.nil ?_
 refine AW.freezeCell 3 2 1 rfl (B rfl) rfl rfl ?_
 refine AW.rseq ?_
 refine AWL.y rfl rfl (B rfl) (Yv.loadBoxA rfl ag_25 (i := 2) rfl (E rfl rfl) rfl rfl) ?_
 refine AWL.storeBox (i := 1) rfl rfl rfl ag_25 rfl (E rfl rfl) (E rfl rfl) rfl rfl (Nat.le_of_ble_eq_true rfl) ?_
 refine AWL.nil ?_
 refine AW.ret (retI (.cellA (i := 1) rfl ag_25 rfl rfl rfl .nil) ?_)
 rfl

theorem len_insM {l : List Ins} : (l.flatMap insCells).length = l.length * 6 := len_flatM (f := insCells) (k := 6) (fun _ => rfl) l
theorem insM_get {l : List Ins} {j : Nat} (h : j < l.length) : ((l.flatMap insCells).drop (j * 6)).take 6 = insCells (l.getD j default) := get_flatM (f := insCells) (k := 6) (fun _ => rfl) h
theorem take_ref {l : List Ins} {j : Nat} (h : j < l.length) : (l.take j).flatMap refB ++ refB (l.getD j default) = (l.take (j + 1)).flatMap refB := by
 rw [gd h, List.take_succ_eq_append_getElem h, List.flatMap_append]
 simp
set_option maxHeartbeats 2000000 in
theorem code19 (il : List Ins) (hl : il.length ≤ 100) (hb : ∀ j, j < il.length → refE (il.getD j default) = 0 ∧ (refB (il.getD j default)).length ≤ 15) (hs : ∀ j, j ≤ il.length → ((il.take j).flatMap refB).length ≤ 1500) :
    ACalls Tryz.prog 19 [.sl 6 (il.flatMap insCells)] [] (fun t S => t = .sl 1 ((il.flatMap refB).map u8)) := by
 refine ACalls.intro Tryz.func19 rfl Tryz.ntmps19 (Nat.le_of_ble_eq_true rfl) rfl fun X w0 => ?_
 refine AW.rseq ?_
 refine AWL.y rfl rfl (B rfl) (Yv.assign rfl (E rfl rfl)) ?_
 refine AWL.nil ?_
 refine AW.rseq ?_
 refine AWL.y rfl rfl (B rfl) (Yv.assign rfl (E rfl rfl)) ?_
 refine AWL.nil ?_
 refine AW.rowNil 5 1 ?_
 refine AW.seq ?_
 refine AW.rseq ?_
 refine AWL.y rfl rfl (B rfl) (Yv.assign rfl (E rfl rfl)) ?_
 refine AWL.nil ?_
 refine AW.block ?_
 refine AW.loop3 (fun (j : Nat) (A : Option Addr) (c : Nat) => [(0, true, .sl 6 (il.flatMap insCells)), (3, true, .v (.slice A ((il.take j).flatMap refB).length c)), (4, true, zi (j : Int))]) (fun (j : Nat) (A : Option Addr) (c : Nat) => [.row A ((il.take j).flatMap refB).length c 5 1 (((il.take j).flatMap refB).map u8)]) (fun (j : Nat) (A : Option Addr) (c : Nat) => j ≤ il.length) (fun (j : Nat) (A : Option Addr) (c : Nat) => il.length - j) 0 none 0 ?_ ?_ ?_ ?_
 ·exact Nat.zero_le _
 ·exact (Sub.cons rfl rfl (Sub.cons rfl rfl (Sub.cons rfl rfl Sub.nil)))
 ·rfl
 intro j A c hinv
 refine AW.seq ?_
 refine AW.rseq ?_
 refine AWL.y rfl rfl (B rfl) (Yv.move rfl (E rfl rfl)) ?_
 refine AWL.y rfl rfl (B rfl) (Yv.move rfl (E rfl rfl)) ?_
 refine AWL.y rfl rfl (B rfl) (Yv.lenSl rfl so_58 (B rfl) (E rfl rfl) len_insM) ?_
 refine AWL.y rfl rfl (B rfl) (Yv.lss rfl (E rfl rfl) (E rfl rfl)) ?_
 refine AWL.nil ?_
 refine AW.cond rfl (fun h0t => ?_) (fun h0f => ?_)
 ·try replace h0t := of_decide_eq_true h0t
  have hj : j < il.length := by omega
  have hbj := hb j hj
  have hsj := hs j (by omega)
  refine AW.skip ?_
  refine AW.seq ?_
  refine AW.block ?_
  refine AW.rseq ?_
  refine AWL.y rfl rfl (B rfl) (Yv.move rfl (E rfl rfl)) ?_
  refine AWL.y rfl rfl (B rfl) (Yv.move rfl (E rfl rfl)) ?_
  refine AWL.y rfl rfl (B rfl) (Yv.indexSl rfl ss_58 (B rfl) (E rfl rfl) (E rfl rfl) (fun hg => ⟨rfl, (by first | omega | (simp only [len_insM, len_u8t]; omega))⟩)) ?_
  refine AWL.y rfl rfl (B rfl) (Yv.loadRpA rfl ag_57 (E rfl rfl) (fun hg => ⟨insM_get hj, rfl⟩)) ?_
  refine AWL.callT rfl rfl (B rfl) rfl ce_28 (E rfl rfl) (evsC (E rfl rfl) evs0) (refEncode52 (il.getD j default)) ?_
  rintro t18 S18 rfl
  refine AWL.y rfl rfl (B rfl) (Yv.move rfl (E rfl rfl)) ?_
  refine AWL.y rfl rfl (B rfl) (Yv.extract rfl (E rfl rfl) rfl) ?_
  refine AWL.y rfl rfl (B rfl) (Yv.extract rfl (E rfl rfl) rfl) ?_
  refine AWL.y rfl rfl (B rfl) (Yv.assign rfl (E rfl rfl)) ?_
  refine AWL.y rfl rfl (B rfl) (Yv.assign rfl (E rfl rfl)) ?_
  refine AWL.nil ?_
  refine AW.rseq ?_
  refine AWL.y rfl rfl (B rfl) (Yv.move rfl (E rfl rfl)) ?_
  refine AWL.y rfl rfl (B rfl) (Yv.eql rfl (E rfl rfl) (E rfl rfl)) ?_
  refine AWL.nil ?_
  refine AW.cond rfl (fun h1t => ?_) (fun h1f => ?_)
  ·try replace h1t := of_decide_eq_true h1t
   refine AW.region ?_
   refine AWL.y rfl rfl (B rfl) (Yv.move rfl (E rfl rfl)) ?_
   refine AWL.y rfl rfl (B rfl) (Yv.move rfl (E rfl rfl)) ?_
   refine AWL.appendRow (i := 0) rfl rfl (B rfl) rfl el_27 (B rfl) rfl (E rfl rfl) (SrcT.sl so_27 (B rfl) (E rfl rfl) len_u8t) (by unfold maxLen; omega) (by omega) (fun A25 c25 => ?_)
   refine AWL.y rfl rfl (B rfl) (Yv.assign rfl (E rfl rfl)) ?_
   refine AWL.nil ?_
   rw [← List.map_append, take_ref hj]
   refine AW.region ?_
   refine AWL.y rfl rfl (B rfl) (Yv.move rfl (E rfl rfl)) ?_
   refine AWL.y rfl rfl (B rfl) (Yv.addN_i64 rfl (E rfl rfl) (E rfl rfl) (fun hg => by omega)) ?_
   refine AWL.y rfl rfl (B rfl) (Yv.assign rfl (E rfl rfl)) ?_
   refine AWL.nil ?_
   refine ⟨j + 1, A25, c25, by omega, by omega, (Sub.cons rfl rfl (Sub.cons rfl (by rw [← take_ref hj, List.length_append]) (Sub.cons rfl rfl Sub.nil))), ?_⟩
   rw [← take_ref hj, List.length_append]
   rfl
  try replace h1f := of_decide_eq_false h1f
  exact absurd hbj.1 h1f
 try replace h0f := of_decide_eq_false h0f
 obtain rfl : j = il.length := by omega
 rw [List.take_length]
 refine AW.exit ?_
 refine AW.freeze 0 3 rfl (B rfl) rfl ?_
 refine AW.rseq ?_
 refine AWL.y rfl rfl (B rfl) (Yv.move rfl (E rfl rfl)) ?_
 refine AWL.y rfl rfl (B rfl) (Yv.assign rfl (E rfl rfl)) ?_
 refine AWL.nil ?_
 refine AW.ret (retI (.tmp rfl .nil) ?_)
 rfl

end Go.Proofs.YtecpjlhbkmongaaGreat.M

namespace Go.Proofs.YtecpjlhbkmongaaGreat.M
open Go Go.RowKit
theorem room_G {l : List Seg} {a n G : Nat} {may : Int} {g : Wd64} (h : Room l a n may g) (hin : ∀ j, j < G → okB l may (a + j)) (hG : G ≤ n) (hout : G = n ∨ ¬ okB l may (a + G)) (ht : a + G < 18446744073709551616) : g.toNat = G := by
 obtain ⟨⟨h1, h2, h3⟩, h4⟩ := h
 rcases Nat.lt_trichotomy g.toNat G with q | q | q
 ·rcases h4 (by omega) with e | e
  ·omega
  exact absurd (hin _ q) e
 ·exact q
 rcases hout with e | e
 ·omega
 exact absurd (h3 G q) e
def il5 : List Ins := [⟨2, 0, 0, 0, 0, -1⟩, ⟨15, 0, 0, 0, 0, 1⟩, ⟨2, 0, 0, 0, 0, 60⟩, ⟨2, 7, 0, 0, 0, 300⟩, ⟨43, 0, 0, 0, 0, 0⟩]
def code5 : List UInt8 := [72, 199, 192, 255, 255, 255, 255, 72, 129, 192, 1, 0, 0, 0, 72, 199, 192, 60, 0, 0, 0, 72, 199, 199, 44, 1, 0, 0, 15, 5]
theorem code5_eq : il5.flatMap refB = code5 := by kernel_rfl
def l5 : List Seg := [⟨268435456#64, 512#64, 6, []⟩, ⟨4194304#64, 31#64, 5, code5⟩, ⟨536870912#64, 64#64, 4, []⟩, ⟨139637976727296#64, 256#64, 6, []⟩]
theorem l5_ok : ∀ s ∈ l5, okS s := by
 intro s hs
 simp only [l5, List.mem_cons, List.not_mem_nil, or_false] at hs
 rcases hs with rfl | rfl | rfl | rfl <;> (unfold okS; decide)
theorem l5_may : MayP l5 := by
 refine ⟨ok_all.2 l5_ok, ap_all.2 ?_⟩
 simp only [l5, List.pairwise_cons, List.mem_cons, List.not_mem_nil, or_false, forall_eq_or_imp, forall_eq, List.Pairwise.nil, and_true, false_imp_iff, implies_true]
 unfold apartS
 decide
theorem l5_x {k : Nat} (h : k < 31) : okB l5 1 (4194304 + k) := okB_mem.2 ⟨⟨4194304#64, 31#64, 5, code5⟩, by simp [l5], ⟨by show 4194304 ≤ _; omega, by show _ < 4194304 + 31; omega⟩, by decide⟩
theorem l5_is {may : Int} {a : Nat} (h : okB l5 may a) (h1 : 4194304 ≤ a) (h2 : a < 268435456) : a < 4194304 + 31 ∧ mayA 5 may = true := by
 obtain ⟨s, hs, ⟨q1, q2⟩, q3⟩ := okB_mem.1 h
 simp only [l5, List.mem_cons, List.not_mem_nil, or_false] at hs
 rcases hs with rfl | rfl | rfl | rfl
 ·have : 268435456 ≤ a := q1
  omega
 ·exact ⟨q2, q3⟩
 ·have : 536870912 ≤ a := q1
  omega
 have : 139637976727296 ≤ a := q1
 omega
theorem l5_top : ¬ okB l5 1 (4194304 + 31) := fun h => absurd (l5_is h (by omega) (by omega)).1 (by omega)
theorem l5_w {k : Nat} (h : k < 31) : ¬ okB l5 2 (4194304 + k) := fun q => absurd (l5_is q (by omega) (by omega)).2 (by decide)
theorem l5_d : ∀ s ∈ l5, s.data.length ≤ 1048576 := by
 intro s hs
 simp only [l5, List.mem_cons, List.not_mem_nil, or_false] at hs
 rcases hs with rfl | rfl | rfl | rfl <;> decide
def bs5 (o G : Nat) : List UInt8 := (List.range G).map fun (k : Nat) => memF l5 (BitVec.ofNat 64 (4194304 + o) + wI (k : Int))
theorem bs5_0 : bs5 0 15 = (code5.drop 0).take 15 := by kernel_rfl
theorem bs5_1 : bs5 7 15 = (code5.drop 7).take 15 := by kernel_rfl
theorem bs5_2 : bs5 14 15 = (code5.drop 14).take 15 := by kernel_rfl
theorem bs5_3 : bs5 21 10 = (code5 ++ [0]).drop 21 := by kernel_rfl
theorem bs5_4 : bs5 28 3 = (code5 ++ [0]).drop 28 := by kernel_rfl
structure At5 (o G k : Nat) (i : Ins) : Prop where
 hg : o + G ≤ 31
 hg15 : G ≤ 15
 hgx : G = 15 ∨ o + G = 31
 hk : o + k ≤ 31
 hk15 : k ≤ 15
 hi : decI (bs5 o G) = i
 hn : decN (bs5 o G) = k
 he : decE (bs5 o G) = 0
theorem at5_0 : At5 0 15 7 ⟨2, 0, 0, 0, 0, -1⟩ := ⟨by decide, by decide, by decide, by decide, by decide, by rw [bs5_0]; kernel_rfl, by rw [bs5_0]; kernel_rfl, by rw [bs5_0]; kernel_rfl⟩
theorem at5_1 : At5 7 15 7 ⟨15, 0, 0, 0, 0, 1⟩ := ⟨by decide, by decide, by decide, by decide, by decide, by rw [bs5_1]; kernel_rfl, by rw [bs5_1]; kernel_rfl, by rw [bs5_1]; kernel_rfl⟩
theorem at5_2 : At5 14 15 7 ⟨2, 0, 0, 0, 0, 60⟩ := ⟨by decide, by decide, by decide, by decide, by decide, by rw [bs5_2]; kernel_rfl, by rw [bs5_2]; kernel_rfl, by rw [bs5_2]; kernel_rfl⟩
theorem at5_3 : At5 21 10 7 ⟨2, 7, 0, 0, 0, 300⟩ := ⟨by decide, by decide, by decide, by decide, by decide, by rw [bs5_3]; kernel_rfl, by rw [bs5_3]; kernel_rfl, by rw [bs5_3]; kernel_rfl⟩
theorem at5_4 : At5 28 3 2 ⟨43, 0, 0, 0, 0, 0⟩ := ⟨by decide, by decide, by decide, by decide, by decide, by rw [bs5_4]; kernel_rfl, by rw [bs5_4]; kernel_rfl, by rw [bs5_4]; kernel_rfl⟩
def SoS (mb mm pg kn : Nat) (w : T) (l : List Seg) (pgs : List Pg) (s : Ms) (mp : Array MapEntry) (c : Nat) : St := .raw kn (.map mp c) :: .box mb 73 (mcC s (.v (.pointer (some ⟨mm, 0, none⟩))) w (mapT kn)) :: .box mm 102 [.sl 4 (l.flatMap seg0), mapT pg] :: memE 95 pg pgs
section
variable {mb mm pg kn : Nat} {w : T} {l : List Seg} {pgs : List Pg}
theorem step5 (hs : Srt l) (hp : l.Perm l5) (hpg : PgOk pgs) (hme : getM pgs = memF l5) {o G k : Nat} {i : Ins} (h5 : At5 o G k i) {s : Ms} {kw : List Wd64} {mp : Array MapEntry} {c : Nat} (hrip : s.rip = BitVec.ofNat 64 (4194304 + o)) (hK : KeysR (kw.map wk) mp) (hm : s.rip ∉ kw) (hs0 : s.stop = 0) (st : Int) (hst : st = 0 ∨ st = 1) (P2 : Ms → Prop) (hq : ∀ s2, P2 s2 → 0 ≤ s2.steps ∧ s2.steps ≤ 1000)
    (hdo : ACalls Tryz.prog 41 [.v (.pointer (some ⟨mb, 0, none⟩)), insT i] [.box mb 73 (mcC ({ s with rip := s.rip + wI (k : Int) }) (.v (.pointer (some ⟨mm, 0, none⟩))) w (mapT kn))] (fun t S => t = zi st ∧ ∃ s2, P2 s2 ∧ S = [.box mb 73 (mcC s2 (.v (.pointer (some ⟨mm, 0, none⟩))) w (mapT kn))])) :
    ACalls Tryz.prog 29 [.v (.pointer (some ⟨mb, 0, none⟩))] (SoS mb mm pg kn w l pgs s mp c) (fun t S => ∃ s2 mp2 c2, P2 s2 ∧ KeysR ((kw ++ [s.rip]).map wk) mp2 ∧ S = SoS mb mm pg kn w l pgs { s2 with stop := st, steps := s2.steps + 1 } mp2 c2) := by
 have hll : l.length ≤ 1048576 := by rw [hp.length_eq]; decide
 have e0 : s.rip.toNat = 4194304 + o := by
  rw [hrip, BitVec.toNat_ofNat]
  have := h5.hg
  omega
 have hbs : bytesR pgs s.rip G = bs5 o G := by
  unfold bytesR bs5
  rw [hme, hrip]
 have hG := h5.hg
 have hK' := h5.hk
 refine (Step29 mb mm pg kn s w l pgs hs hll hpg kw mp c hK hm G h5.hg15 (fun g hg => ?_) i k h5.hk15 (by rw [hbs]; exact h5.hi) (by rw [hbs]; exact h5.hn) (by rw [hbs]; exact h5.he) (fun j hj => ?_) (by omega) hs0 st hst P2 hq hdo).mono fun t S h => ?_
 ·refine room_G hg (fun j hj => (okB_perm hp).2 (by rw [e0, show 4194304 + o + j = 4194304 + (o + j) by omega]; exact l5_x (by omega))) h5.hg15 ?_ (by omega)
  rcases h5.hgx with q | q
  ·exact .inl q
  exact .inr (fun q2 => l5_top (by
   have := (okB_perm hp).1 q2
   rwa [e0, show 4194304 + o + G = 4194304 + 31 by omega] at this))
 ·rw [okB_perm hp, e0, show 4194304 + o + j = 4194304 + (o + j) by omega]
  exact l5_w (by omega)
 obtain ⟨-, s2, mp2, c2, h1, h2, h3⟩ := h
 exact ⟨s2, mp2, c2, h1, h2, h3⟩
end
def Fi : Nat → Ms → List Wd64 → Prop
 | 0 => fun s kw => s.rip = 4194304#64 ∧ kw = [] ∧ s.steps = 0 ∧ s.stop = 0
 | 1 => fun s kw => s.rip = 4194311#64 ∧ kw = [4194304#64] ∧ s.steps = 1 ∧ s.stop = 0 ∧ s.r 0 = 18446744073709551615#64
 | 2 => fun s kw => s.rip = 4194318#64 ∧ kw = [4194304#64, 4194311#64] ∧ s.steps = 2 ∧ s.stop = 0 ∧ s.r 0 = 0#64 ∧ s.fC = true ∧ s.fZ = true ∧ s.fP = true
 | 3 => fun s kw => s.rip = 4194325#64 ∧ kw = [4194304#64, 4194311#64, 4194318#64] ∧ s.steps = 3 ∧ s.stop = 0 ∧ s.r 0 = 60#64
 | 4 => fun s kw => s.rip = 4194332#64 ∧ kw = [4194304#64, 4194311#64, 4194318#64, 4194325#64] ∧ s.steps = 4 ∧ s.stop = 0 ∧ s.r 0 = 60#64 ∧ s.r 7 = 300#64
 | _ => fun s kw => s.stop = 1 ∧ s.code = 44 ∧ s.steps = 5
theorem Fi_live : ∀ i s kw, i < 5 → Fi i s kw → s.stop = 0
 | 0, _, _, _, h => h.2.2.2
 | 1, _, _, _, h => h.2.2.2.1
 | 2, _, _, _, h => h.2.2.2.1
 | 3, _, _, _, h => h.2.2.2.1
 | 4, _, _, _, h => h.2.2.2.1
 | i + 5, _, _, hi, _ => by omega
theorem updR_same (r : Nat → Wd64) (i : Nat) (v : Wd64) : updR r i v i = v := by unfold updR; rw [Nat.beq_refl]; rfl
theorem Fi_step {mb mm pg kn : Nat} {w : T} {l : List Seg} {pgs : List Pg} (hs : Srt l) (hp : l.Perm l5) (hpg : PgOk pgs) (hme : getM pgs = memF l5) : ∀ i s kw mp c, i < 5 → Fi i s kw → KeysR (kw.map wk) mp →
    ACalls Tryz.prog 29 [.v (.pointer (some ⟨mb, 0, none⟩))] (SoS mb mm pg kn w l pgs s mp c) (fun t S => ∃ s2 kw2 mp2 c2, Fi (i + 1) s2 kw2 ∧ KeysR (kw2.map wk) mp2 ∧ S = SoS mb mm pg kn w l pgs s2 mp2 c2)
 | 0, s, kw, mp, c, _, h, hK => by
  obtain ⟨h1, h2, h3, h4⟩ := h
  subst h2
  refine (step5 hs hp hpg hme at5_0 (by rw [h1]) hK (by simp) h4 0 (.inl rfl) (fun s2 => s2 = { s with rip := s.rip + wI ((7 : Nat) : Int), r := updR s.r 0 (wI (-1)) }) (fun s2 e => by rw [e]; show 0 ≤ s.steps ∧ s.steps ≤ 1000; omega) ((do41c mb _ _ w _ 0 (by decide) (-1)).mono fun t S h => ⟨h.1, _, rfl, h.2⟩)).mono fun t S h => ?_
  obtain ⟨s2, mp2, c2, e, q1, q2⟩ := h
  subst e
  refine ⟨_, _, mp2, c2, ⟨?_, ?_, ?_, rfl, ?_⟩, q1, q2⟩
  ·show s.rip + _ = _; rw [h1]; rfl
  ·rw [h1]; rfl
  ·show s.steps + 1 = 1; rw [h3]; rfl
  ·show updR s.r 0 (wI (-1)) 0 = _
   exact (updR_same _ _ _).trans rfl
 | 1, s, kw, mp, c, _, h, hK => by
  obtain ⟨h1, h2, h3, h4, h5⟩ := h
  subst h2
  refine (step5 hs hp hpg hme at5_1 (by rw [h1]) hK (by rw [h1]; decide) h4 0 (.inl rfl) (fun s2 => ∃ o, s2 = { s with rip := s.rip + wI ((7 : Nat) : Int), r := updR s.r 0 0#64, fC := decide (carW (s.r 0) 1#64 = 1#64), fO := o, fZ := true, fS := false, fP := true }) (fun s2 ⟨o, e⟩ => by rw [e]; show 0 ≤ s.steps ∧ s.steps ≤ 1000; omega) ((do41a mb _ _ w _ (by show s.r 0 + 1#64 = 0#64; rw [h5]; rfl)).mono fun t S h => ⟨h.1, _, ⟨h.2.choose, rfl⟩, h.2.choose_spec⟩)).mono fun t S h => ?_
  obtain ⟨s2, mp2, c2, ⟨o, e⟩, q1, q2⟩ := h
  subst e
  refine ⟨_, _, mp2, c2, ⟨?_, ?_, ?_, rfl, ?_, ?_, rfl, rfl⟩, q1, q2⟩
  ·show s.rip + _ = _; rw [h1]; rfl
  ·rw [h1]; rfl
  ·show s.steps + 1 = 2; rw [h3]; rfl
  ·show updR s.r 0 0#64 0 = _
   exact (updR_same _ _ _).trans rfl
  ·show decide (carW (s.r 0) 1#64 = 1#64) = true; rw [h5]; rfl
 | 2, s, kw, mp, c, _, h, hK => by
  obtain ⟨h1, h2, h3, h4, h5⟩ := h
  subst h2
  refine (step5 hs hp hpg hme at5_2 (by rw [h1]) hK (by rw [h1]; decide) h4 0 (.inl rfl) (fun s2 => s2 = { s with rip := s.rip + wI ((7 : Nat) : Int), r := updR s.r 0 (wI 60) }) (fun s2 e => by rw [e]; show 0 ≤ s.steps ∧ s.steps ≤ 1000; omega) ((do41c mb _ _ w _ 0 (by decide) 60).mono fun t S h => ⟨h.1, _, rfl, h.2⟩)).mono fun t S h => ?_
  obtain ⟨s2, mp2, c2, e, q1, q2⟩ := h
  subst e
  refine ⟨_, _, mp2, c2, ⟨?_, ?_, ?_, rfl, ?_⟩, q1, q2⟩
  ·show s.rip + _ = _; rw [h1]; rfl
  ·rw [h1]; rfl
  ·show s.steps + 1 = 3; rw [h3]; rfl
  ·show updR s.r 0 (wI 60) 0 = _
   exact (updR_same _ _ _).trans rfl
 | 3, s, kw, mp, c, _, h, hK => by
  obtain ⟨h1, h2, h3, h4, h5⟩ := h
  subst h2
  refine (step5 hs hp hpg hme at5_3 (by rw [h1]) hK (by rw [h1]; decide) h4 0 (.inl rfl) (fun s2 => s2 = { s with rip := s.rip + wI ((7 : Nat) : Int), r := updR s.r 7 (wI 300) }) (fun s2 e => by rw [e]; show 0 ≤ s.steps ∧ s.steps ≤ 1000; omega) ((do41c mb _ _ w _ 7 (by decide) 300).mono fun t S h => ⟨h.1, _, rfl, h.2⟩)).mono fun t S h => ?_
  obtain ⟨s2, mp2, c2, e, q1, q2⟩ := h
  subst e
  refine ⟨_, _, mp2, c2, ⟨?_, ?_, ?_, rfl, ?_, ?_⟩, q1, q2⟩
  ·show s.rip + _ = _; rw [h1]; rfl
  ·rw [h1]; rfl
  ·show s.steps + 1 = 4; rw [h3]; rfl
  ·show updR s.r 7 (wI 300) 0 = _; exact h5
  ·show updR s.r 7 (wI 300) 7 = _
   exact (updR_same _ _ _).trans rfl
 | 4, s, kw, mp, c, _, h, hK => by
  obtain ⟨h1, h2, h3, h4, h5, h6⟩ := h
  subst h2
  refine (step5 hs hp hpg hme at5_4 (by rw [h1]) hK (by rw [h1]; decide) h4 1 (.inr rfl) (fun s2 => s2 = { s with rip := s.rip + wI ((2 : Nat) : Int), code := 44 }) (fun s2 e => by rw [e]; show 0 ≤ s.steps ∧ s.steps ≤ 1000; omega) ((do41s mb { s with rip := s.rip + wI ((2 : Nat) : Int) } _ w _ h5 h6).mono fun t S h => ⟨h.1, _, rfl, h.2⟩)).mono fun t S h => ?_
  obtain ⟨s2, mp2, c2, e, q1, q2⟩ := h
  subst e
  refine ⟨_, _, mp2, c2, ⟨rfl, rfl, ?_⟩, q1, q2⟩
  show s.steps + 1 = 5; rw [h3]; rfl
 | i + 5, _, _, _, _, hi, _, _ => by omega
end Go.Proofs.YtecpjlhbkmongaaGreat.M

namespace Go.Proofs.YtecpjlhbkmongaaGreat.M
open Go Go.RowKit

theorem il5_b : ∀ j, j < il5.length → refE (il5.getD j default) = 0 ∧ (refB (il5.getD j default)).length ≤ 15
 | 0, _ => by decide
 | 1, _ => by decide
 | 2, _ => by decide
 | 3, _ => by decide
 | 4, _ => by decide
 | j + 5, h => absurd h (by show ¬ j + 5 < 5; omega)
theorem il5_s : ∀ j, j ≤ il5.length → ((il5.take j).flatMap refB).length ≤ 1500
 | 0, _ => by decide
 | 1, _ => by decide
 | 2, _ => by decide
 | 3, _ => by decide
 | 4, _ => by decide
 | 5, _ => by decide
 | j + 6, h => absurd h (by show ¬ j + 6 ≤ 5; omega)
theorem les5 (q : Option Addr) : Les [.agg [zw 4194304#64, .sl 4 (cells0 (il5.flatMap refB))], .v (.pointer q)] [.agg [zw 4194304#64, .sl 4 (l5.flatMap segC)], .v (.pointer q)] := by
 rw [code5_eq]
 have hn : Le (.v (.slice none 0 0)) (.sl 1 (([] : List UInt8).map u8)) := nil_sl (by decide)
 refine .cons (Le.agg (.cons .refl (.cons (Le.sl ?_) .refl))) .refl
 show Les [zw 268435456#64, zw 512#64, zi 6, .v (.slice none 0 0), zw 4194304#64, zw 31#64, zi 5, .sl 1 (code5.map u8), zw 536870912#64, zw 64#64, zi 4, .v (.slice none 0 0), zw 139637976727296#64, zw 256#64, zi 6, .v (.slice none 0 0)] [zw 268435456#64, zw 512#64, zi 6, .sl 1 (([] : List UInt8).map u8), zw 4194304#64, zw 31#64, zi 5, .sl 1 (code5.map u8), zw 536870912#64, zw 64#64, zi 4, .sl 1 (([] : List UInt8).map u8), zw 139637976727296#64, zw 256#64, zi 6, .sl 1 (([] : List UInt8).map u8)]
 exact .cons .refl (.cons .refl (.cons .refl (.cons hn (.cons .refl (.cons .refl (.cons .refl (.cons .refl (.cons .refl (.cons .refl (.cons .refl (.cons hn (.cons .refl (.cons .refl (.cons .refl (.cons hn .refl)))))))))))))))
theorem new5K (wb : Nat) : ACalls Tryz.prog 5 [.agg [zw 4194304#64, .sl 4 (cells0 (il5.flatMap refB))], .v (.pointer (some ⟨wb, 0, none⟩))] [] (fun t S => ∃ (mb mm pg kn : Nat) (l : List Seg) (pgs : List Pg), l.Perm l5 ∧ Srt l ∧ PgOk pgs ∧ getM pgs = memF l5 ∧ t = .tup [.v (.pointer (some ⟨mb, 0, none⟩)), zi 0] ∧ S = (.box mb 73 (mcC (ms0 4194304#64) (.v (.pointer (some ⟨mm, 0, none⟩))) (.v (.pointer (some ⟨wb, 0, none⟩))) (mapT kn)) :: .map kn [] :: Ent.box mm 102 [.sl 4 (l.flatMap seg0), mapT pg] :: memE 95 pg pgs)) :=
 ((New5 4194304#64 l5 (by decide) l5_d (some ⟨wb, 0, none⟩)).mono fun t S h => by
  rcases h with ⟨h, _⟩ | ⟨_, h, _⟩ | ⟨_, _, mb, mm, pg, kn, l, pgs, h⟩
  ·cases h
  ·exact absurd l5_may h
  ·exact ⟨mb, mm, pg, kn, l, pgs, h⟩).le (les5 _)
set_option maxHeartbeats 4000000 in
theorem known4  :
    ACalls Tryz.prog 4 [] [] (fun t S => t = bv true) := by
 refine ACalls.intro Tryz.func4 rfl Tryz.ntmps4 (Nat.le_of_ble_eq_true rfl) rfl fun X w0 => ?_
 refine AW.rseq ?_
 refine AWL.y rfl rfl (B rfl) (Yv.assign rfl (E rfl rfl)) ?_
 refine AWL.nil ?_
 refine AW.rseq ?_
 refine AWL.y rfl rfl (B rfl) (Yv.buildS rfl sh_57 (evpC (E rfl rfl) (evpC (E rfl rfl) evp0)) (fun _ => rfl)) ?_
 refine AWL.y rfl rfl (B rfl) (Yv.buildS rfl sh_57 (evpC (E rfl rfl) (evpC (E rfl rfl) evp0)) (fun _ => rfl)) ?_
 refine AWL.y rfl rfl (B rfl) (Yv.buildS rfl sh_57 (evpC (E rfl rfl) (evpC (E rfl rfl) evp0)) (fun _ => rfl)) ?_
 refine AWL.y rfl rfl (B rfl) (Yv.buildS rfl sh_57 (evpC (E rfl rfl) (evpC (E rfl rfl) (evpC (E rfl rfl) evp0))) (fun _ => rfl)) ?_
 refine AWL.y rfl rfl (B rfl) (Yv.buildS rfl sh_57 (evpC (E rfl rfl) evp0) (fun _ => rfl)) ?_
 refine AWL.buildSliceE rfl rfl (B rfl) rfl el_58 (B rfl) rfl (evsC (E rfl rfl) (evsC (E rfl rfl) (evsC (E rfl rfl) (evsC (E rfl rfl) (evsC (E rfl rfl) evs0))))) (Nat.le_of_ble_eq_true rfl) rfl rfl ?_
 refine AWL.y rfl rfl (B rfl) (Yv.assign rfl (E rfl rfl)) ?_
 refine AWL.nil ?_
 refine AW.rseq ?_
 refine AWL.y rfl rfl (B rfl) (Yv.move rfl (E rfl rfl)) ?_
 refine AWL.callT rfl rfl (B rfl) rfl ce_19 (E rfl rfl) (evsC (E rfl rfl) evs0) (code19 il5 (by decide) il5_b il5_s) ?_
 rintro t18 S18 rfl
 refine AWL.y rfl rfl (B rfl) (Yv.buildS rfl sh_62 (evpC (E rfl rfl) evp0) (fun _ => rfl)) ?_
 refine AWL.callT rfl rfl (B rfl) rfl ce_20 (E rfl rfl) (evsC (E rfl rfl) evs0) (loaded20 (il5.flatMap refB) (by rw [code5_eq]; decide)) ?_
 rintro t20 S20 rfl
 refine AWL.y rfl rfl (B rfl) (Yv.buildS rfl sh_38 evp0 (fun _ => rfl)) ?_
 refine AWL.callT rfl rfl (B rfl) rfl ce_6 (E rfl rfl) (evsC (E rfl rfl) evs0) (wNew6) ?_
 rintro t22 S22 ⟨wb, rfl⟩
 refine AWL.callE rfl rfl (B rfl) rfl ce_5 (E rfl rfl) (evsC (E rfl rfl) (evsC (E rfl rfl) evs0)) (F1 := []) (S1 := []) rfl (new5K wb) ?_
 rintro t23 S23 ⟨mb, mm, pg, kn, l, pgs, hp, hsr, hpo, hme, rfl, rfl⟩
 refine AWL.y rfl rfl (B rfl) (Yv.move rfl (E rfl rfl)) ?_
 refine AWL.y rfl rfl (B rfl) (Yv.extract rfl (E rfl rfl) rfl) ?_
 refine AWL.y rfl rfl (B rfl) (Yv.extract rfl (E rfl rfl) rfl) ?_
 refine AWL.y rfl rfl (B rfl) (Yv.assign rfl (E rfl rfl)) ?_
 refine AWL.y rfl rfl (B rfl) (Yv.assign rfl (E rfl rfl)) ?_
 refine AWL.nil ?_
 refine AW.eqS (S' := Ent.box mb 73 (mcC (ms0 4194304#64) (.v (.pointer (some ⟨mm, 0, none⟩))) (.v (.pointer (some ⟨wb, 0, none⟩))) (mapT kn)) :: .map kn [] :: (Ent.box mm 102 [.sl 4 (l.flatMap seg0), mapT pg] :: memE 95 pg pgs)) rfl ?_
 refine AW.openMap (i := 1) rfl rfl (fun mp c hraw => ?_)
 have hK0 : KeysR (([] : List Wd64).map wk) mp := KeysR.nil hraw
 refine AW.perm (S' := SoS mb mm pg kn (.v (.pointer (some ⟨wb, 0, none⟩))) l pgs (ms0 4194304#64) mp c) (List.Perm.swap _ _ _) ?_
 refine AW.seq ?_
 refine AW.rseq ?_
 refine AWL.y rfl rfl (B rfl) (Yv.move rfl (E rfl rfl)) ?_
 refine AWL.y rfl rfl (B rfl) (Yv.neq rfl (E rfl rfl) (E rfl rfl)) ?_
 refine AWL.y rfl rfl (B rfl) (Yv.move rfl (E rfl rfl)) ?_
 refine AWL.ygF rfl rfl rfl rfl (B rfl) (Yv.move rfl (E rfl rfl)) ?_
 refine AWL.ygF rfl rfl rfl rfl (B rfl) (Yv.eqlNilP rfl pn_30 (Eg rfl rfl id)) ?_
 refine AWL.y rfl rfl (B rfl) (Yv.pickOr (t := .const (.bool true)) rfl (E rfl rfl) (Eg rfl rfl id)) ?_
 refine AWL.nil ?_
 refine AW.cond rfl (fun h0t => ?_) (fun h0f => ?_)
 ·try replace h0t := of_decide_eq_true h0t
  cases h0t
 try replace h0f := of_decide_eq_false h0f
 refine AW.skip ?_
 refine AW.rseq ?_
 refine AWL.y rfl rfl (B rfl) (Yv.move rfl (E rfl rfl)) ?_
 refine AWL.callE rfl rfl (B rfl) rfl ce_21 (E rfl rfl) (evsC (E rfl rfl) (evsC (E rfl rfl) evs0)) (F1 := []) (S1 := SoS mb mm pg kn (.v (.pointer (some ⟨wb, 0, none⟩))) l pgs (ms0 4194304#64) mp c) rfl (Run21 mb mm pg kn _ l pgs (fun j => Fi j) 2 2 (by decide) (by decide) (fun _ => 0) (fun i s kw hi h => Fi_live i s kw (by omega) h) (.inl rfl) (fun i s kw mp c hi h hK => Fi_step hsr hp hpo hme i s kw mp c (by omega) h hK) (ms0 4194304#64) [] mp c ⟨rfl, rfl, rfl, rfl⟩ hK0) ?_
 rintro t33 S33 ⟨s2, kw2, mp2, c2, rfl, hF2, hK2, rfl⟩
 refine AWL.y rfl rfl (B rfl) (Yv.assign rfl (E rfl rfl)) ?_
 refine AWL.nil ?_
 refine AW.rseq ?_
 refine AWL.y rfl rfl (B rfl) (Yv.move rfl (E rfl rfl)) ?_
 refine AWL.callF rfl rfl (B rfl) rfl ce_13 (E rfl rfl) (evsC (E rfl rfl) evs0) (F1 := [Ent.raw kn (.map mp2 c2)]) (S1 := [Ent.box mb 73 (mcC (s2) (.v (.pointer (some ⟨mm, 0, none⟩))) (.v (.pointer (some ⟨wb, 0, none⟩))) (mapT kn))]) (F2 := (Ent.box mm 102 [.sl 4 (l.flatMap seg0), mapT pg] :: memE 95 pg pgs)) rfl (Flags13 mb s2 _ _ _) ?_
 rintro t35 S35 ⟨rfl, E7, rfl⟩
 refine AWL.allocOp rfl rfl (B rfl) rfl zc_48 (fun b5 => ?_)
 refine AWL.perm (List.perm_append_singleton _ _).symm ?_
 refine AWL.storeBox (i := 0) rfl rfl rfl ag_48 rfl (E rfl rfl) (E rfl rfl) rfl rfl (Nat.le_of_ble_eq_true rfl) ?_
 refine AWL.nil ?_
 refine AW.eqS (S' := Ent.box b5 48 [bv s2.fC, bv s2.fP, bv s2.fZ, bv s2.fS, bv s2.fO] :: Ent.raw kn (.map mp2 c2) :: Ent.box mb 73 (mcC (s2) (.v (.pointer (some ⟨mm, 0, none⟩))) (.v (.pointer (some ⟨wb, 0, none⟩))) (mapT kn)) :: E7 :: (Ent.box mm 102 [.sl 4 (l.flatMap seg0), mapT pg] :: memE 95 pg pgs)) rfl ?_
 refine AW.dropAt 3 ?_
 refine AW.rseq ?_
 refine AWL.y rfl rfl (B rfl) (Yv.move rfl (E rfl rfl)) ?_
 refine AWL.callF rfl rfl (B rfl) rfl ce_12 (E rfl rfl) (evsC (E rfl rfl) (evsC (E rfl rfl) evs0)) (F1 := [Ent.box b5 48 [bv s2.fC, bv s2.fP, bv s2.fZ, bv s2.fS, bv s2.fO], Ent.raw kn (.map mp2 c2)]) (S1 := [Ent.box mb 73 (mcC (s2) (.v (.pointer (some ⟨mm, 0, none⟩))) (.v (.pointer (some ⟨wb, 0, none⟩))) (mapT kn))]) (F2 := (Ent.box mm 102 [.sl 4 (l.flatMap seg0), mapT pg] :: memE 95 pg pgs)) rfl (Reg12 mb s2 _ _ _ 0) ?_
 rintro t37 S37 ⟨rfl, rfl⟩
 refine AWL.y rfl rfl (B rfl) (Yv.assign rfl (E rfl rfl)) ?_
 refine AWL.nil ?_
 refine AW.rseq ?_
 refine AWL.y rfl rfl (B rfl) (Yv.move rfl (E rfl rfl)) ?_
 refine AWL.callE rfl rfl (B rfl) rfl ce_21 (E rfl rfl) (evsC (E rfl rfl) (evsC (E rfl rfl) evs0)) (F1 := [Ent.box b5 48 [bv s2.fC, bv s2.fP, bv s2.fZ, bv s2.fS, bv s2.fO]]) (S1 := SoS mb mm pg kn (.v (.pointer (some ⟨wb, 0, none⟩))) l pgs s2 mp2 c2) rfl (Run21 mb mm pg kn _ l pgs (fun j => Fi (j + 2)) 3 9 (by decide) (by decide) (fun _ => 0) (fun i s kw hi h => Fi_live (i + 2) s kw (by omega) h) (.inr fun s kw h => by rw [show s.stop = 1 from h.1]; decide) (fun i s kw mp c hi h hK => Fi_step hsr hp hpo hme (i + 2) s kw mp c (by omega) h hK) s2 kw2 mp2 c2 hF2 hK2) ?_
 rintro t39 S39 ⟨s3, kw3, mp3, c3, rfl, hF3, hK3, rfl⟩
 refine AWL.y rfl rfl (B rfl) (Yv.assign rfl (E rfl rfl)) ?_
 refine AWL.nil ?_
 refine AW.rseq ?_
 refine AWL.y rfl rfl (B rfl) (Yv.move rfl (E rfl rfl)) ?_
 refine AWL.callF rfl rfl (B rfl) rfl ce_9 (E rfl rfl) (evsC (E rfl rfl) evs0) (F1 := [Ent.box b5 48 [bv s2.fC, bv s2.fP, bv s2.fZ, bv s2.fS, bv s2.fO], Ent.raw kn (.map mp3 c3)]) (S1 := [Ent.box mb 73 (mcC (s3) (.v (.pointer (some ⟨mm, 0, none⟩))) (.v (.pointer (some ⟨wb, 0, none⟩))) (mapT kn))]) (F2 := (Ent.box mm 102 [.sl 4 (l.flatMap seg0), mapT pg] :: memE 95 pg pgs)) rfl (Stop9 mb s3 _ _ _) ?_
 rintro t42 S42 ⟨rfl, rfl⟩
 refine AWL.y rfl rfl (B rfl) (Yv.move rfl (E rfl rfl)) ?_
 refine AWL.y rfl rfl (B rfl) (Yv.extract rfl (E rfl rfl) rfl) ?_
 refine AWL.y rfl rfl (B rfl) (Yv.extract rfl (E rfl rfl) rfl) ?_
 refine AWL.y rfl rfl (B rfl) (Yv.assign rfl (E rfl rfl)) ?_
 refine AWL.y rfl rfl (B rfl) (Yv.assign rfl (E rfl rfl)) ?_
 refine AWL.nil ?_
 refine AW.perm (S' := Ent.box mb 73 (mcC (s3) (.v (.pointer (some ⟨mm, 0, none⟩))) (.v (.pointer (some ⟨wb, 0, none⟩))) (mapT kn)) :: Ent.box b5 48 [bv s2.fC, bv s2.fP, bv s2.fZ, bv s2.fS, bv s2.fO] :: Ent.raw kn (.map mp3 c3) :: (Ent.box mm 102 [.sl 4 (l.flatMap seg0), mapT pg] :: memE 95 pg pgs)) ((List.perm_middle (l₁ := [_, _])).symm) ?_
 refine AW.rseq ?_
 refine AWL.y rfl rfl (B rfl) (Yv.move rfl (E rfl rfl)) ?_
 refine AWL.y rfl rfl (B rfl) (Yv.eql rfl (E rfl rfl) (E rfl rfl)) ?_
 refine AWL.y rfl rfl (B rfl) (Yv.move rfl (E rfl rfl)) ?_
 refine AWL.ygT rfl rfl rfl rfl (B rfl) (Yv.fieldBox rfl fo_48_0 (E rfl rfl)) ?_
 refine AWL.ygT rfl rfl rfl rfl (B rfl) (Yv.loadBox rfl ag_4 (i := 1) rfl (Eg rfl rfl id) rfl) ?_
 refine AWL.y rfl rfl (B rfl) (Yv.pickAnd rfl (E rfl rfl) (Eg rfl rfl id)) ?_
 refine AWL.y rfl rfl (B rfl) (Yv.move rfl (E rfl rfl)) ?_
 refine AWL.ygT rfl rfl rfl rfl (B rfl) (Yv.fieldBox rfl fo_48_2 (E rfl rfl)) ?_
 refine AWL.ygT rfl rfl rfl rfl (B rfl) (Yv.loadBox rfl ag_4 (i := 1) rfl (Eg rfl rfl id) rfl) ?_
 refine AWL.y rfl rfl (B rfl) (Yv.pickAnd rfl (E rfl rfl) (Eg rfl rfl id)) ?_
 refine AWL.y rfl rfl (B rfl) (Yv.move rfl (E rfl rfl)) ?_
 refine AWL.ygT rfl rfl rfl rfl (B rfl) (Yv.fieldBox rfl fo_48_1 (E rfl rfl)) ?_
 refine AWL.ygT rfl rfl rfl rfl (B rfl) (Yv.loadBox rfl ag_4 (i := 1) rfl (Eg rfl rfl id) rfl) ?_
 refine AWL.y rfl rfl (B rfl) (Yv.pickAnd rfl (E rfl rfl) (Eg rfl rfl id)) ?_
 refine AWL.y rfl rfl (B rfl) (Yv.move rfl (E rfl rfl)) ?_
 refine AWL.ygT rfl rfl rfl rfl (B rfl) (Yv.move rfl (E rfl rfl)) ?_
 refine AWL.ygT rfl rfl rfl rfl (B rfl) (Yv.eqlW (b := 0#64) rfl (Eg rfl rfl id) (E rfl rfl)) ?_
 refine AWL.y rfl rfl (B rfl) (Yv.pickAnd rfl (E rfl rfl) (Eg rfl rfl id)) ?_
 refine AWL.y rfl rfl (B rfl) (Yv.move rfl (E rfl rfl)) ?_
 refine AWL.ygT rfl rfl rfl rfl (B rfl) (Yv.move rfl (E rfl rfl)) ?_
 refine AWL.ygT rfl rfl rfl rfl (B rfl) (Yv.eql rfl (Eg rfl rfl id) (E rfl rfl)) ?_
 refine AWL.y rfl rfl (B rfl) (Yv.pickAnd rfl (E rfl rfl) (Eg rfl rfl id)) ?_
 refine AWL.y rfl rfl (B rfl) (Yv.move rfl (E rfl rfl)) ?_
 refine AWL.ygT rfl rfl rfl rfl (B rfl) (Yv.move rfl (E rfl rfl)) ?_
 refine AWL.ygT rfl rfl rfl rfl (B rfl) (Yv.eql rfl (Eg rfl rfl id) (E rfl rfl)) ?_
 refine AWL.y rfl rfl (B rfl) (Yv.pickAnd rfl (E rfl rfl) (Eg rfl rfl id)) ?_
 refine AWL.y rfl rfl (B rfl) (Yv.move rfl (E rfl rfl)) ?_
 refine AWL.ygT rfl rfl rfl rfl (B rfl) (Yv.move rfl (E rfl rfl)) ?_
 refine AWL.ygT rfl rfl rfl rfl (B rfl) (Yv.eql rfl (Eg rfl rfl id) (E rfl rfl)) ?_
 refine AWL.y rfl rfl (B rfl) (Yv.pickAnd rfl (E rfl rfl) (Eg rfl rfl id)) ?_
 refine AWL.y rfl rfl (B rfl) (Yv.move rfl (E rfl rfl)) ?_
 refine AWL.ygT rfl rfl rfl rfl (B rfl) (Yv.move rfl (E rfl rfl)) ?_
 refine AWL.callKgT rfl rfl rfl rfl (B rfl) rfl ce_11 (E rfl rfl) (evsC (Eg rfl rfl id) evs0) (S1 := [Ent.box mb 73 (mcC (s3) (.v (.pointer (some ⟨mm, 0, none⟩))) (.v (.pointer (some ⟨wb, 0, none⟩))) (mapT kn))]) (S2 := (Ent.box b5 48 [bv s2.fC, bv s2.fP, bv s2.fZ, bv s2.fS, bv s2.fO] :: Ent.raw kn (.map mp3 c3) :: (Ent.box mm 102 [.sl 4 (l.flatMap seg0), mapT pg] :: memE 95 pg pgs))) rfl (fun hg => Steps11 mb s3 _ _ _) (fun t S h => h) ?_
 refine AWL.ygT rfl rfl rfl rfl (B rfl) (Yv.eql rfl (Eg rfl rfl id) (E rfl rfl)) ?_
 refine AWL.y rfl rfl (B rfl) (Yv.pickAnd rfl (E rfl rfl) (Eg rfl rfl id)) ?_
 refine AWL.y rfl rfl (B rfl) (Yv.assign rfl (E rfl rfl)) ?_
 refine AWL.nil ?_
 refine AW.ret (retI (.tmp rfl .nil) ?_)
 obtain ⟨-, -, -, g0, g1, g2, g3, g4⟩ := hF2
 obtain ⟨k1, k2, k3⟩ := hF3
 refine congrArg (fun b => T.v (.bool b)) (a₂ := true) ?_
 simp [g0, g1, g2, g3, g4, k1, k2, k3, regF]

end Go.Proofs.YtecpjlhbkmongaaGreat.M

namespace Go.Proofs.YtecpjlhbkmongaaGreat
open Go Go.RowKit
theorem ACalls.leR {P : Program} {f : FuncId} {ts : List T} {S0 : St} {R R' : T → St → Prop} (h : ACalls P f ts S0 R) (hr : ∀ t S', R t S' → ∃ t', Le t t' ∧ R' t' S') : ACalls P f ts S0 R' := fun X w args h1 h2 h3 h4 h5 =>
 (h X w args h1 h2 h3 h4 h5).mono fun e w' ⟨v, t, S', a, b, c, d, e, f, r⟩ => by
  obtain ⟨t', hl, r'⟩ := hr t S' r
  exact ⟨v, t', S', a, b, c, d, e, hl _ _ _ f, r'⟩
theorem Le.tup {l l' : List T} (h : Les l l') : Le (.tup l) (.tup l') := fun w L u hu => by
 cases hu with
 | tup hl hh => exact .tup (h.len ▸ hl) (fun j t' u h1 h2 => by
     have hj : j < l.length := by
      have := (List.getElem?_eq_some_iff.1 h1).1
      rw [h.len]; exact this
     exact h.at_ j l[j] t' (List.getElem?_eq_getElem hj) h1 _ _ _ (hh j l[j] u (List.getElem?_eq_getElem hj) h2))
end Go.Proofs.YtecpjlhbkmongaaGreat
namespace Go.Proofs.YtecpjlhbkmongaaGreat.M
open Go Go.RowKit
def PS (kn mb mm pg : Nat) (s : Ms) (w : T) (l : List Seg) (pgs : List Pg) : St := .map kn [] :: .box mb 73 (mcC s (.v (.pointer (some ⟨mm, 0, none⟩))) w (mapT kn)) :: .box mm 102 [.sl 4 (l.flatMap seg0), mapT pg] :: memE 95 pg pgs
def NewP (e : Wd64) (l0 : List Seg) (p : Option Addr) (z : Int) (S : St) : Prop :=
 (¬ MayP l0 ∧ p = none ∧ z = 210) ∨ (MayP l0 ∧ ∃ (mb mm pg kn : Nat) (w : T) (l : List Seg) (pgs : List Pg), l.Perm l0 ∧ Srt l ∧ PgOk pgs ∧ getM pgs = memF l0 ∧ p = some ⟨mb, 0, none⟩ ∧ z = 0 ∧ S = PS kn mb mm pg (ms0 e) w l pgs)
section
variable (e : Wd64) (l0 : List Seg) (hl : l0.length ≤ 1048576) (hd : ∀ s ∈ l0, s.data.length ≤ 1048576)
include hl hd
theorem new5Q (wb : Nat) : ACalls Tryz.prog 5 [.agg [zw e, .sl 4 (l0.flatMap segC)], .v (.pointer (some ⟨wb, 0, none⟩))] [] (fun t S => ∃ p z, t = .tup [.v (.pointer p), zi z] ∧ NewP e l0 p z S) :=
 (New5 e l0 hl hd (some ⟨wb, 0, none⟩)).lessR fun t S h => by
  rcases h with ⟨h, _⟩ | ⟨_, h, h2⟩ | ⟨_, h0, mb, mm, pg, kn, l, pgs, h1, h2, h3, h4, h5, h6⟩
  ·cases h
  ·exact ⟨[], [], List.nil_sublist _, .refl _, none, 210, h2, .inl ⟨h, rfl, rfl⟩⟩
  ·subst h6
   exact ⟨_, _, List.Sublist.refl _, List.Perm.swap _ _ _, _, 0, h5, .inr ⟨h0, mb, mm, pg, kn, _, l, pgs, h1, h2, h3, h4, rfl, rfl, rfl⟩⟩
theorem new5N : ACalls Tryz.prog 5 [.agg [zw e, .sl 4 (l0.flatMap segC)], .v (.pointer none)] [] (fun t S => t = .tup [.v (.pointer none), zi 1]) :=
 (New5 e l0 hl hd none).mono fun t S h => by
  rcases h with ⟨_, h⟩ | ⟨h, _⟩ | ⟨h, _⟩
  ·exact h
  ·cases h
  ·cases h
end
theorem readG (mb mm pg : Nat) (s : Ms) (w kn : T) (l : List Seg) (pgs : List Pg) (a : Wd64) (hs : Srt l) (hl : l.length ≤ 1048576) (hpg : PgOk pgs) (n : Int) (hn : n ≤ 300) :
    ACalls Tryz.prog 14 [.v (.pointer (some ⟨mb, 0, none⟩)), zw a, zi n] (.box mb 73 (mcC s (.v (.pointer (some ⟨mm, 0, none⟩))) w kn) :: .box mm 102 [.sl 4 (l.flatMap seg0), mapT pg] :: memE 95 pg pgs)
     (fun t S => ∃ (ok : Bool) (bs : List UInt8), (ok = true ↔ 0 ≤ n ∧ rdOk l a n.toNat) ∧ (ok = true → bs = bytesR pgs a n.toNat) ∧ (ok = false → bs = []) ∧ t = .tup [.sl 1 (bs.map u8), bv ok] ∧ S = (.box mb 73 (mcC s (.v (.pointer (some ⟨mm, 0, none⟩))) w kn) :: .box mm 102 [.sl 4 (l.flatMap seg0), mapT pg] :: memE 95 pg pgs)) := by
 have hn0 : Le (.tup [.v (.slice none 0 0), bv false]) (.tup [.sl 1 (([] : List UInt8).map u8), bv false]) := Le.tup (.cons (nil_sl (by decide)) .refl)
 rcases (show n < 0 ∨ 0 ≤ n by omega) with q | q
 ·refine (Read14n mb mm pg s w kn l pgs a n q).leR fun t S h => ?_
  obtain ⟨rfl, rfl⟩ := h
  exact ⟨_, hn0, false, [], ⟨fun h => (by cases h), fun h => by omega⟩, fun h => (by cases h), fun _ => rfl, rfl, rfl⟩
 obtain ⟨m, rfl⟩ := Int.eq_ofNat_of_zero_le q
 have hm : ((m : Int)).toNat = m := rfl
 refine (Read14p mb mm pg s w kn l pgs a hs hl hpg m (by omega)).leR fun t S h => ?_
 obtain ⟨h, rfl⟩ := h
 rcases h with ⟨h1, rfl⟩ | ⟨h1, rfl⟩
 ·exact ⟨_, Le.refl, true, bytesR pgs a m, ⟨fun _ => ⟨q, h1⟩, fun _ => rfl⟩, fun _ => rfl, fun h => (by cases h), rfl, rfl⟩
 exact ⟨_, hn0, false, [], ⟨fun h => (by cases h), fun h => absurd h.2 h1⟩, fun h => (by cases h), fun _ => rfl, rfl, rfl⟩
theorem thereK {s : Nat} {C : List T} {l0 : List Seg} (hC : C[38]? = some (.sl 4 (l0.flatMap seg0))) (hs : ∀ t ∈ l0, okS t) (hl : l0.length ≤ 1048576) {a n : Wd64} {ok : Bool} (h : ok = true ↔ thereP l0 a n.toNat) :
    ACalls Tryz.prog 15 [.v (.pointer (some ⟨s, 0, none⟩)), zw a, zw n, zi 8] [.box s 91 C] (fun t S => t = bv ok ∧ S = [.box s 91 C]) :=
 (There15 s C l0 hC hs hl a n).mono fun t S ⟨⟨b, h1, h2⟩, h3⟩ => ⟨by rw [h2, show b = ok from Bool.eq_iff_iff.2 (h1.trans h.symm)], h3⟩
end Go.Proofs.YtecpjlhbkmongaaGreat.M
