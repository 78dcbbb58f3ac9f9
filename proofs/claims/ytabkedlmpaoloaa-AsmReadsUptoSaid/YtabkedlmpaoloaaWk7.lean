/-
  CONTRACTS of the asm package: places, way, grow; walked by program.
-/
import Derived.Test.YtabkedlmpaoloaaWk6
import Derived.Test.YtabkedlmpaoloaaGrow
namespace Go.Proofs.Ytabkedlmpaoloaa
open Go Go.RowKit
set_option linter.unusedVariables false
set_option linter.unnecessarySimpa false
set_option linter.unusedSimpArgs false

set_option maxHeartbeats 1000000 in
theorem places55 (l : List Line) (hl : l.length ≤ NL) (b : Nat) (A1 A2 : Option Addr) (sz tg : List Nat) (hsl : sz.length = l.length) (hs : ∀ s ∈ sz, s ≤ 11) :
    ACalls Try.prog 55 [.v (.pointer (some ⟨b, 0, none⟩))] (LB b l A1 A2 sz tg) (fun t_ S => ∃ A, t_ = .v (.slice A (l.length + 1) (l.length + 1)) ∧ S = LB b l A1 A2 sz tg ++ [Ent.row A (l.length + 1) (l.length + 1) 23 1 ((plF sz).map zu)]) := by
  have hnl : l.length ≤ 1099511627 := hl
  unfold NL at hl
  have hz0 : ∀ k, sz.getD k 0 ≤ 11 := getD_le hs
  refine ACalls.intro Try.func55 rfl Try.ntmps55 (Nat.le_of_ble_eq_true rfl) rfl fun X w0 => ?_
  refine AW.rseq ?_
  refine AWL.y rfl rfl (B rfl) (Yv.assign rfl (E rfl rfl)) ?_
  refine AWL.nil ?_
  refine AW.rseq ?_
  refine AWL.y rfl rfl (B rfl) (Yv.move rfl (E rfl rfl)) ?_
  refine AWL.y rfl rfl (B rfl) (Yv.nilChk rfl (E rfl rfl)) ?_
  refine AWL.y rfl rfl (B rfl) (Yv.fieldBox rfl fo_53_0 (E rfl rfl)) ?_
  refine AWL.y rfl rfl (B rfl) (Yv.loadBox rfl ag_22 (i := 0) rfl (E rfl rfl) rfl) ?_
  refine AWL.y rfl rfl (B rfl) (Yv.lenSl rfl so_22 (B rfl) (E rfl rfl) len_lines) ?_
  refine AWL.y rfl rfl (B rfl) (Yv.addN_i64 rfl (E rfl rfl) (E rfl rfl) (fun hg => by omega)) ?_
  refine AWL.makeRow (n := l.length + 1) (c := l.length + 1) rfl rfl (B rfl) rfl el_37 (E rfl rfl) (E rfl rfl) (by omega) (by omega) (by unfold maxLen; omega) (fun A12 => ?_)
  refine AWL.y rfl rfl (B rfl) (Yv.assign rfl (E rfl rfl)) ?_
  refine AWL.nil ?_
  refine AW.seq ?_
  rw [flat_rep, show List.replicate (l.length + 1) (T.v (.int .u64 0)) = (plN sz 0).map zu by rw [plN_zero, hsl, List.map_replicate]; rfl]
  refine AW.rseq ?_
  refine AWL.y rfl rfl (B rfl) (Yv.move rfl (E rfl rfl)) ?_
  refine AWL.y rfl rfl (B rfl) (Yv.nilChk rfl (E rfl rfl)) ?_
  refine AWL.y rfl rfl (B rfl) (Yv.fieldBox rfl fo_53_1 (E rfl rfl)) ?_
  refine AWL.y rfl rfl (B rfl) (Yv.loadBox rfl ag_37 (i := 0) rfl (E rfl rfl) rfl) ?_
  refine AWL.y rfl rfl (B rfl) (Yv.lenV rfl so_37 (E rfl rfl)) ?_
  refine AWL.y rfl rfl (B rfl) (Yv.move rfl (E rfl rfl)) ?_
  refine AWL.nil ?_
  refine AW.block ?_
  refine AW.loop (fun (j : Nat) => [(0, true, .v (.pointer (some ⟨b, 0, none⟩))), (3, true, .v (.slice A12 (l.length + 1) (l.length + 1))), (16, true, .v (.slice A1 l.length l.length)), (17, true, .v (.int .i64 (l.length : Int))), (18, true, .v (.int .i64 (j : Int)))]) (fun (j : Nat) => (LB b l A1 A2 sz tg ++ [Ent.row A12 (l.length + 1) (l.length + 1) 23 1 ((plN sz j).map zu)])) (fun (j : Nat) => j ≤ l.length) (fun (j : Nat) => l.length - j) 0 ?_ ?_ ?_ ?_
  · exact Nat.zero_le _
  · exact (Sub.cons rfl rfl (Sub.cons rfl rfl (Sub.cons rfl rfl (Sub.cons rfl rfl (Sub.cons rfl rfl Sub.nil)))))
  · rfl
  ·
   intro j hinv
   refine AW.rseq ?_
   refine AWL.y rfl rfl (B rfl) (Yv.lss rfl (E rfl rfl) (E rfl rfl)) ?_
   refine AWL.nil ?_
   refine AW.seq ?_
   refine AW.cond rfl (fun h0t => ?_) (fun h0f => ?_)
   ·
    try replace h0t := of_decide_eq_true h0t
    refine AW.skip ?_
    refine AW.seq ?_
    refine AW.block ?_
    refine AW.rseq ?_
    refine AWL.y rfl rfl (B rfl) (Yv.move rfl (E rfl rfl)) ?_
    refine AWL.y rfl rfl (B rfl) (Yv.indexRow rfl ss_37 (i := 1) rfl (E rfl rfl) (E rfl rfl) (fun hg => ⟨rfl, by omega⟩)) ?_
    refine AWL.y rfl rfl (B rfl) (Yv.loadEp rfl ag_23 (i := 1) rfl (E rfl rfl) (fun hg => zu_get (by first | omega | (rw [plN_len (by omega)]; omega)))) ?_
    refine AWL.y rfl rfl (B rfl) (Yv.assign rfl (E rfl rfl)) ?_
    refine AWL.y rfl rfl (B rfl) (Yv.assign rfl (E rfl rfl)) ?_
    refine AWL.nil ?_
    have hzj := hz0 j
    have hpb := pre_bound hs (by omega) j
    have hpg : (plN sz j).getD j 0 = pre sz j := plN_get
    refine AW.region ?_
    refine AWL.y rfl rfl (B rfl) (Yv.move rfl (E rfl rfl)) ?_
    refine AWL.y rfl rfl (B rfl) (Yv.move rfl (E rfl rfl)) ?_
    refine AWL.y rfl rfl (B rfl) (Yv.addN_i64 rfl (E rfl rfl) (E rfl rfl) (fun hg => by omega)) ?_
    refine AWL.y rfl rfl (B rfl) (Yv.move rfl (E rfl rfl)) ?_
    refine AWL.y rfl rfl (B rfl) (Yv.move rfl (E rfl rfl)) ?_
    refine AWL.y rfl rfl (B rfl) (Yv.indexRow rfl ss_37 (i := 3) rfl (E rfl rfl) (E rfl rfl) (fun hg => ⟨rfl, by omega⟩)) ?_
    refine AWL.y rfl rfl (B rfl) (Yv.loadEp rfl ag_23 (i := 3) rfl (E rfl rfl) (fun hg => zu_get (by first | omega | (rw [plN_len (by omega)]; omega)))) ?_
    refine AWL.y rfl rfl (B rfl) (Yv.move rfl (E rfl rfl)) ?_
    refine AWL.y rfl rfl (B rfl) (Yv.addN_u64 rfl (E rfl rfl) (E rfl rfl) (fun hg => by omega)) ?_
    refine AWL.y rfl rfl (B rfl) (Yv.indexRow (j := (j + 1)) rfl ss_37 (i := 3) rfl (E rfl rfl) (E rfl rfl) (fun hg => ⟨by omega, by omega⟩)) ?_
    refine AWL.storeEp1 (i := 3) rfl rfl rfl ag_23 rfl (E rfl rfl) (E rfl rfl) rfl rfl (by rw [List.length_map, plN_len (by omega)]; omega) ?_
    refine AWL.nil ?_
    refine AW.region ?_
    refine AWL.y rfl rfl (B rfl) (Yv.addN_i64 rfl (E rfl rfl) (E rfl rfl) (fun hg => by omega)) ?_
    refine AWL.y rfl rfl (B rfl) (Yv.move rfl (E rfl rfl)) ?_
    refine AWL.nil ?_
    refine ⟨j + 1, by omega, by omega, Sub.cons rfl rfl (Sub.cons rfl rfl (Sub.cons rfl rfl (Sub.cons rfl rfl (Sub.cons rfl (by simp) Sub.nil)))), ?_⟩
    show [_, _, _, _] = LB b l A1 A2 sz tg ++ [_]
    rw [← plN_setU (by omega) rfl, ← hpg]
    rfl
   try replace h0f := of_decide_eq_false h0f
   refine AW.exit ?_
   obtain rfl : j = sz.length := by omega
   rw [plN_all]
   refine AW.rseq ?_
   refine AWL.y rfl rfl (B rfl) (Yv.move rfl (E rfl rfl)) ?_
   refine AWL.y rfl rfl (B rfl) (Yv.assign rfl (E rfl rfl)) ?_
   refine AWL.nil ?_
   refine AW.ret (retI (.tmp rfl .nil) ?_)
   exact ⟨_, rfl, rfl⟩

set_option maxHeartbeats 1000000 in
theorem way23 (l : List Line) (hl : l.length ≤ NL) (b : Nat) (A1 A2 P : Option Addr) (sz tg p : List Nat) (hpl : p.length = l.length + 1) (hp : ∀ k, p.getD k 0 ≤ 12094627897) (htl : tg.length = l.length) (ht : ∀ k, tg.getD k 0 ≤ l.length) (j : Nat) (hj : j < l.length) :
    ACalls Try.prog 23 [.v (.pointer (some ⟨b, 0, none⟩)), .v (.slice P (l.length + 1) (l.length + 1)), .v (.int .i64 (j : Int))] (LB b l A1 A2 sz tg ++ [Ent.row P (l.length + 1) (l.length + 1) 23 1 ((p).map zu)]) (fun t_ S => t_ = .v (.int .i64 (wayF tg p j)) ∧ S = LB b l A1 A2 sz tg ++ [Ent.row P (l.length + 1) (l.length + 1) 23 1 ((p).map zu)]) := by
  have hnl : l.length ≤ 1099511627 := hl
  unfold NL at hl
  have h1 := ht j
  have h2 := hp (tg.getD j 0)
  have h3 := hp (j + 1)
  refine ACalls.intro Try.func23 rfl Try.ntmps23 (Nat.le_of_ble_eq_true rfl) rfl fun X w0 => ?_
  refine AW.rseq ?_
  refine AWL.y rfl rfl (B rfl) (Yv.assign rfl (E rfl rfl)) ?_
  refine AWL.nil ?_
  refine AW.rseqQ rfl (by kernel_rfl) ?_
  refine AWQ.y rfl rfl (B rfl) (Yv.move rfl (E rfl rfl)) ?_
  refine AWQ.y rfl rfl (B rfl) (Yv.move rfl (E rfl rfl)) ?_
  refine AWQ.y rfl rfl (B rfl) (Yv.nilChk rfl (E rfl rfl)) ?_
  refine AWQ.y rfl rfl (B rfl) (Yv.fieldBox rfl fo_53_2 (E rfl rfl)) ?_
  refine AWQ.y rfl rfl (B rfl) (Yv.loadBox rfl ag_51 (i := 0) rfl (E rfl rfl) rfl) ?_
  refine AWQ.y rfl rfl (B rfl) (Yv.move rfl (E rfl rfl)) ?_
  refine AWQ.y rfl rfl (B rfl) (Yv.indexRow rfl ss_51 (i := 2) rfl (E rfl rfl) (E rfl rfl) (fun hg => ⟨rfl, by omega⟩)) ?_
  refine AWQ.y rfl rfl (B rfl) (Yv.loadEp rfl ag_3 (i := 2) rfl (E rfl rfl) (fun hg => (zi_get (by omega)))) ?_
  refine AWQ.y rfl rfl (B rfl) (Yv.indexRow rfl ss_37 (i := 3) rfl (E rfl rfl) (E rfl rfl) (fun hg => ⟨rfl, by omega⟩)) ?_
  refine AWQ.y rfl rfl (B rfl) (Yv.loadEp rfl ag_23 (i := 3) rfl (E rfl rfl) (fun hg => (zu_get (j := tg.getD j 0) (by omega)))) ?_
  refine AWQ.y rfl rfl (B rfl) (Yv.convN_i64 rfl Try.underlying23 kd_2 (E rfl rfl) (fun hg => by omega)) ?_
  refine AWQ.y rfl rfl (B rfl) (Yv.move rfl (E rfl rfl)) ?_
  refine AWQ.y rfl rfl (B rfl) (Yv.move rfl (E rfl rfl)) ?_
  refine AWQ.y rfl rfl (B rfl) (Yv.addN_i64 rfl (E rfl rfl) (E rfl rfl) (fun hg => by omega)) ?_
  refine AWQ.y rfl rfl (B rfl) (Yv.indexRow (j := (j + 1)) rfl ss_37 (i := 3) rfl (E rfl rfl) (E rfl rfl) (fun hg => ⟨by omega, by omega⟩)) ?_
  refine AWQ.y rfl rfl (B rfl) (Yv.loadEp rfl ag_23 (i := 3) rfl (E rfl rfl) (fun hg => (zu_get (j := j + 1) (by omega)))) ?_
  refine AWQ.y rfl rfl (B rfl) (Yv.convN_i64 rfl Try.underlying23 kd_2 (E rfl rfl) (fun hg => by omega)) ?_
  refine AWQ.y rfl rfl (B rfl) (Yv.subN_i64 rfl (E rfl rfl) (E rfl rfl) (fun hg => by omega)) ?_
  refine AWQ.y rfl rfl (B rfl) (Yv.assign rfl (E rfl rfl)) ?_
  refine AWQ.nil ?_
  refine AW.ret (retI (.tmp rfl .nil) ?_)
  exact ⟨rfl, rfl⟩

set_option maxHeartbeats 2000000 in
theorem grow44 (l : List Line) (hl : l.length ≤ NL) (b : Nat) (A1 A2 : Option Addr) (sz0 tg : List Nat) (hsl0 : sz0.length = l.length) (hs0 : ∀ s ∈ sz0, s ≤ 11) (htl : tg.length = l.length) (ht : ∀ k, tg.getD k 0 ≤ l.length) :
    ACalls Try.prog 44 [.v (.pointer (some ⟨b, 0, none⟩))] (LB b l A1 A2 (sz0) tg) (fun t_ S => ∃ A, t_ = .v (.slice A (l.length + 1) (l.length + 1)) ∧ S = LB b l A1 A2 (growN l tg (l.length + 1) sz0) tg ++ [Ent.row A (l.length + 1) (l.length + 1) 23 1 ((plF (growN l tg (l.length + 1) sz0)).map zu)]) := by
  have hnl : l.length ≤ 1099511627 := hl
  unfold NL at hl
  refine ACalls.intro Try.func44 rfl Try.ntmps44 (Nat.le_of_ble_eq_true rfl) rfl fun X w0 => ?_
  refine AW.rseq ?_
  refine AWL.y rfl rfl (B rfl) (Yv.assign rfl (E rfl rfl)) ?_
  refine AWL.nil ?_
  refine AW.scope ?_
  refine AW.rseq ?_
  refine AWL.y rfl rfl (B rfl) (Yv.assign rfl (E rfl rfl)) ?_
  refine AWL.nil ?_
  refine AW.seq ?_
  refine AW.label ?_
  refine AW.seq ?_
  refine AW.block ?_
  refine AW.loop (fun (sz : List Nat) => [(0, true, .v (.pointer (some ⟨b, 0, none⟩)))]) (fun (sz : List Nat) => (LB b l A1 A2 (sz) tg)) (fun (sz : List Nat) => sz.length = l.length ∧ (∀ s ∈ sz, s ≤ 11) ∧ ∃ f, sz.count 2 < f ∧ growN l tg f sz = (growN l tg (l.length + 1) sz0)) (fun (sz : List Nat) => sz.count 2) sz0 ?_ ?_ ?_ ?_
  · exact ⟨hsl0, hs0, l.length + 1, by have := List.count_le_length (a := 2) (l := sz0); omega, rfl⟩
  · exact (Sub.cons rfl rfl Sub.nil)
  · rfl
  ·
   intro sz hinv
   obtain ⟨hsl, hs, fu, hfu, hgr⟩ := hinv
   have hplb : ∀ k, (plF sz).getD k 0 ≤ 12094627897 := plF_bound hs (by omega)
   refine AW.block ?_
   refine AW.rseq ?_
   refine AWL.y rfl rfl (B rfl) (Yv.move rfl (E rfl rfl)) ?_
   refine AWL.call rfl rfl (B rfl) rfl ce_55 (E rfl rfl) (evsC (E rfl rfl) evs0) (S1 := (LB b l A1 A2 (sz) tg)) (S2 := []) rfl (places55 l (by unfold NL; omega) b A1 A2 sz tg hsl hs) ?_
   rintro t9 S9 ⟨P, rfl, rfl⟩
   refine AWL.y rfl rfl (B rfl) (Yv.assign rfl (E rfl rfl)) ?_
   refine AWL.nil ?_
   refine AW.rseq ?_
   refine AWL.y rfl rfl (B rfl) (Yv.assign rfl (E rfl rfl)) ?_
   refine AWL.nil ?_
   refine AW.seq ?_
   refine AW.rseq ?_
   refine AWL.y rfl rfl (B rfl) (Yv.move rfl (E rfl rfl)) ?_
   refine AWL.y rfl rfl (B rfl) (Yv.nilChk rfl (E rfl rfl)) ?_
   refine AWL.y rfl rfl (B rfl) (Yv.fieldBox rfl fo_53_0 (E rfl rfl)) ?_
   refine AWL.y rfl rfl (B rfl) (Yv.loadBox rfl ag_22 (i := 0) rfl (E rfl rfl) rfl) ?_
   refine AWL.y rfl rfl (B rfl) (Yv.lenSl rfl so_22 (B rfl) (E rfl rfl) len_lines) ?_
   refine AWL.y rfl rfl (B rfl) (Yv.move rfl (E rfl rfl)) ?_
   refine AWL.nil ?_
   refine AW.block ?_
   refine AW.loop (fun (j : Nat) => [(0, true, .v (.pointer (some ⟨b, 0, none⟩))), (3, true, .v (.slice P (l.length + 1) (l.length + 1))), (4, true, .v (.bool (decide (mixN l tg (plF sz) sz j ≠ sz)))), (13, true, linesT l), (14, true, .v (.int .i64 (l.length : Int))), (15, true, .v (.int .i64 (j : Int)))]) (fun (j : Nat) => (LB b l A1 A2 (mixN l tg (plF sz) sz j) tg ++ [Ent.row P (l.length + 1) (l.length + 1) 23 1 ((plF sz).map zu)])) (fun (j : Nat) => j ≤ l.length) (fun (j : Nat) => l.length - j) 0 ?_ ?_ ?_ ?_
   · exact Nat.zero_le _
   · exact (Sub.cons rfl rfl (Sub.cons rfl rfl (Sub.cons rfl (by rw [mix_zero, decide_eq_false (by simp)]; rfl) (Sub.cons rfl rfl (Sub.cons rfl rfl (Sub.cons rfl rfl Sub.nil))))))
   · rw [mix_zero, List.append_nil]
   ·
    intro j hinv
    have hmg : j < l.length → (mixN l tg (plF sz) sz j).getD j 0 = sz.getD j 0 := fun h => mix_get (by omega)
    have hml : (mixN l tg (plF sz) sz j).length = l.length := by rw [mix_len (by omega)]; exact hsl
    have hmz := getD_le (mix_le (l := l) (tg := tg) (p := plF sz) (j := j) hs) j
    refine AW.rseq ?_
    refine AWL.y rfl rfl (B rfl) (Yv.lss rfl (E rfl rfl) (E rfl rfl)) ?_
    refine AWL.nil ?_
    refine AW.seq ?_
    refine AW.cond rfl (fun h0t => ?_) (fun h0f => ?_)
    ·
     try replace h0t := of_decide_eq_true h0t
     refine AW.skip ?_
     refine AW.seq ?_
     refine AW.block ?_
     refine AW.rseq ?_
     refine AWL.y rfl rfl (B rfl) (Yv.move rfl (E rfl rfl)) ?_
     refine AWL.y rfl rfl (B rfl) (Yv.indexSl rfl ss_22 (B rfl) (E rfl rfl) (E rfl rfl) (fun hg => ⟨rfl, (by first | omega | (simp only [len_lines, len_inss, len_zu, len_ints, len_u8s]; omega))⟩)) ?_
     refine AWL.y rfl rfl (B rfl) (Yv.loadRpA rfl ag_32 (E rfl rfl) (fun hg => line_get (by omega))) ?_
     refine AWL.allocOp rfl rfl (B rfl) rfl zc_32 (fun b6 => ?_)
     refine AWL.y rfl rfl (B rfl) (Yv.assign rfl (E rfl rfl)) ?_
     refine AWL.storeBox (i := 4) rfl rfl rfl ag_32 rfl (E rfl rfl) (E rfl rfl) rfl rfl (Nat.le_of_ble_eq_true rfl) ?_
     refine AWL.nil ?_
     refine AW.seq ?_
     refine AW.rseq ?_
     refine AWL.y rfl rfl (B rfl) (Yv.fieldBox rfl fo_32_0 (E rfl rfl)) ?_
     refine AWL.y rfl rfl (B rfl) (Yv.loadBox rfl ag_3 (i := 4) rfl (E rfl rfl) rfl) ?_
     refine AWL.y rfl rfl (B rfl) (Yv.neq rfl (E rfl rfl) (E rfl rfl)) ?_
     refine AWL.y rfl rfl (B rfl) (Yv.move rfl (E rfl rfl)) ?_
     refine AWL.ygT rfl rfl rfl rfl (B rfl) (Yv.fieldBox rfl fo_32_0 (E rfl rfl)) ?_
     refine AWL.ygT rfl rfl rfl rfl (B rfl) (Yv.loadBox rfl ag_3 (i := 4) rfl (Eg rfl rfl id) rfl) ?_
     refine AWL.ygT rfl rfl rfl rfl (B rfl) (Yv.neq rfl (Eg rfl rfl id) (E rfl rfl)) ?_
     refine AWL.y rfl rfl (B rfl) (Yv.pickAnd rfl (E rfl rfl) (Eg rfl rfl id)) ?_
     refine AWL.y rfl rfl (B rfl) (Yv.move rfl (E rfl rfl)) ?_
     refine AWL.ygF rfl rfl rfl rfl (B rfl) (Yv.move rfl (E rfl rfl)) ?_
     refine AWL.ygF rfl rfl rfl rfl (B rfl) (Yv.nilChk rfl (Eg rfl rfl id)) ?_
     refine AWL.ygF rfl rfl rfl rfl (B rfl) (Yv.fieldBox rfl fo_53_1 (Eg rfl rfl id)) ?_
     refine AWL.ygF rfl rfl rfl rfl (B rfl) (Yv.loadBox rfl ag_37 (i := 0) rfl (Eg rfl rfl id) rfl) ?_
     refine AWL.ygF rfl rfl rfl rfl (B rfl) (Yv.move rfl (E rfl rfl)) ?_
     refine AWL.ygF rfl rfl rfl rfl (B rfl) (Yv.indexRow rfl ss_37 (i := 1) rfl (Eg rfl rfl id) (Eg rfl rfl id) (fun hg => ⟨rfl, by omega⟩)) ?_
     refine AWL.ygF rfl rfl rfl rfl (B rfl) (Yv.loadEp rfl ag_23 (i := 1) rfl (Eg rfl rfl id) (fun hg => zu_get (by first | omega | (rw [plN_len (by omega)]; omega)))) ?_
     refine AWL.ygF rfl rfl rfl rfl (B rfl) (Yv.neq rfl (Eg rfl rfl id) (E rfl rfl)) ?_
     refine AWL.y rfl rfl (B rfl) (Yv.pickOr (t := .const (.bool true)) rfl (E rfl rfl) (Eg rfl rfl id)) ?_
     refine AWL.nil ?_
     refine AW.cond rfl (fun h1t => ?_) (fun h1f => ?_)
     ·
      have h1tr := h1t
      try replace h1t := of_decide_eq_true h1t
      refine AW.exit ?_
      refine AW.dropAt 4 ?_
      refine AW.region ?_
      refine AWL.y rfl rfl (B rfl) (Yv.addN_i64 rfl (E rfl rfl) (E rfl rfl) (fun hg => by omega)) ?_
      refine AWL.y rfl rfl (B rfl) (Yv.move rfl (E rfl rfl)) ?_
      refine AWL.nil ?_
      have hsm := mix_same (l := l) (tg := tg) (p := plF sz) (show j < sz.length by omega) (newS_no (by simp only [Bool.or_eq_true, Bool.and_eq_true, Bool.or_eq_false_iff, Bool.and_eq_false_iff, Bool.not_eq_true', Bool.not_eq_false', decide_eq_true_eq, decide_eq_false_iff_not, Decidable.not_not, ne_eq] at h1tr; rw [hmg (by omega)] at h1tr; omega))
      refine ⟨j + 1, by omega, by omega, Sub.cons rfl rfl (Sub.cons rfl rfl (Sub.cons rfl (by rw [hsm]) (Sub.cons rfl rfl (Sub.cons rfl rfl (Sub.cons rfl (by simp) Sub.nil))))), ?_⟩
      rw [hsm]
      rfl
     have h1fr := h1f
     try replace h1f := of_decide_eq_false h1f
     refine AW.skip ?_
     refine AW.rseq ?_
     refine AWL.y rfl rfl (B rfl) (Yv.move rfl (E rfl rfl)) ?_
     refine AWL.y rfl rfl (B rfl) (Yv.move rfl (E rfl rfl)) ?_
     refine AWL.y rfl rfl (B rfl) (Yv.move rfl (E rfl rfl)) ?_
     refine AWL.call rfl rfl (B rfl) rfl ce_23 (E rfl rfl) (evsC (E rfl rfl) (evsC (E rfl rfl) (evsC (E rfl rfl) evs0))) (S1 := _) (S2 := _) rfl (way23 l (by unfold NL; omega) b A1 A2 P (mixN l tg (plF sz) sz j) tg (plF sz) (by rw [plF_len]; omega) hplb htl ht j (by omega)) ?_
     rintro t41 S41 ⟨rfl, rfl⟩
     refine AWL.y rfl rfl (B rfl) (Yv.assign rfl (E rfl rfl)) ?_
     refine AWL.nil ?_
     refine AW.rseq ?_
     refine AWL.y rfl rfl (B rfl) (Yv.move rfl (E rfl rfl)) ?_
     refine AWL.y rfl rfl (B rfl) (Yv.lss rfl (E rfl rfl) (E rfl rfl)) ?_
     refine AWL.y rfl rfl (B rfl) (Yv.move rfl (E rfl rfl)) ?_
     refine AWL.ygF rfl rfl rfl rfl (B rfl) (Yv.move rfl (E rfl rfl)) ?_
     refine AWL.ygF rfl rfl rfl rfl (B rfl) (Yv.gtr rfl (Eg rfl rfl id) (E rfl rfl)) ?_
     refine AWL.y rfl rfl (B rfl) (Yv.pickOr (t := .const (.bool true)) rfl (E rfl rfl) (Eg rfl rfl id)) ?_
     refine AWL.nil ?_
     refine AW.cond rfl (fun h2t => ?_) (fun h2f => ?_)
     ·
      have h2tr := h2t
      try replace h2t := of_decide_eq_true h2t
      refine AW.rseq ?_
      refine AWL.y rfl rfl (B rfl) (Yv.move rfl (E rfl rfl)) ?_
      refine AWL.y rfl rfl (B rfl) (Yv.nilChk rfl (E rfl rfl)) ?_
      refine AWL.y rfl rfl (B rfl) (Yv.fieldBox rfl fo_53_1 (E rfl rfl)) ?_
      refine AWL.y rfl rfl (B rfl) (Yv.loadBox rfl ag_37 (i := 0) rfl (E rfl rfl) rfl) ?_
      refine AWL.y rfl rfl (B rfl) (Yv.move rfl (E rfl rfl)) ?_
      refine AWL.y rfl rfl (B rfl) (Yv.indexRow rfl ss_37 (i := 1) rfl (E rfl rfl) (E rfl rfl) (fun hg => ⟨rfl, by omega⟩)) ?_
      refine AWL.storeEp1 (i := 1) rfl rfl rfl ag_23 rfl (E rfl rfl) (E rfl rfl) rfl rfl (by simp; omega) ?_
      refine AWL.nil ?_
      refine AW.seq ?_
      refine AW.rseq ?_
      refine AWL.y rfl rfl (B rfl) (Yv.fieldBox rfl fo_32_0 (E rfl rfl)) ?_
      refine AWL.y rfl rfl (B rfl) (Yv.loadBox rfl ag_3 (i := 4) rfl (E rfl rfl) rfl) ?_
      refine AWL.y rfl rfl (B rfl) (Yv.eql rfl (E rfl rfl) (E rfl rfl)) ?_
      refine AWL.nil ?_
      refine AW.cond rfl (fun h3t => ?_) (fun h3f => ?_)
      ·
       try replace h3t := of_decide_eq_true h3t
       refine AW.region ?_
       refine AWL.y rfl rfl (B rfl) (Yv.move rfl (E rfl rfl)) ?_
       refine AWL.y rfl rfl (B rfl) (Yv.nilChk rfl (E rfl rfl)) ?_
       refine AWL.y rfl rfl (B rfl) (Yv.fieldBox rfl fo_53_1 (E rfl rfl)) ?_
       refine AWL.y rfl rfl (B rfl) (Yv.loadBox rfl ag_37 (i := 0) rfl (E rfl rfl) rfl) ?_
       refine AWL.y rfl rfl (B rfl) (Yv.move rfl (E rfl rfl)) ?_
       refine AWL.y rfl rfl (B rfl) (Yv.indexRow rfl ss_37 (i := 1) rfl (E rfl rfl) (E rfl rfl) (fun hg => ⟨rfl, by omega⟩)) ?_
       refine AWL.storeEp1 (i := 1) rfl rfl rfl ag_23 rfl (E rfl rfl) (E rfl rfl) rfl rfl (by simp; omega) ?_
       refine AWL.nil ?_
       refine AW.region ?_
       refine AWL.y rfl rfl (B rfl) (Yv.assign rfl (E rfl rfl)) ?_
       refine AWL.nil ?_
       refine AW.dropAt 4 ?_
       refine AW.region ?_
       refine AWL.y rfl rfl (B rfl) (Yv.addN_i64 rfl (E rfl rfl) (E rfl rfl) (fun hg => by omega)) ?_
       refine AWL.y rfl rfl (B rfl) (Yv.move rfl (E rfl rfl)) ?_
       refine AWL.nil ?_
       have hnv : newS l tg (plF sz) sz j = 6 := by
         rw [newS_out (by simp only [Bool.or_eq_true, Bool.and_eq_true, Bool.or_eq_false_iff, Bool.and_eq_false_iff, Bool.not_eq_true', Bool.not_eq_false', decide_eq_true_eq, decide_eq_false_iff_not, Decidable.not_not, ne_eq] at h1fr; rw [hmg (by omega)] at h1fr; omega) (by simp only [Bool.or_eq_true, Bool.and_eq_true, Bool.or_eq_false_iff, Bool.and_eq_false_iff, Bool.not_eq_true', Bool.not_eq_false', decide_eq_true_eq, decide_eq_false_iff_not, Decidable.not_not, ne_eq] at h1fr; rw [hmg (by omega)] at h1fr; omega) h2tr]
         rw [if_pos h3t]
       have hne := mix_ne (l := l) (tg := tg) (p := plF sz) (show j < sz.length by omega) (by rw [hnv]; have := hmg (by omega); simp only [Bool.or_eq_true, Bool.and_eq_true, Bool.or_eq_false_iff, Bool.and_eq_false_iff, Bool.not_eq_true', Bool.not_eq_false', decide_eq_true_eq, decide_eq_false_iff_not, Decidable.not_not, ne_eq] at h1fr; rw [hmg (by omega)] at h1fr; omega)
       refine ⟨j + 1, by omega, by omega, Sub.cons rfl rfl (Sub.cons rfl rfl (Sub.cons rfl (by rw [decide_eq_true hne]; rfl) (Sub.cons rfl rfl (Sub.cons rfl rfl (Sub.cons rfl (by simp) Sub.nil))))), ?_⟩
       unfold LB
       rw [← mix_setU (v := 6) (by omega) hnv]
       simp only [List.set_set]
       rfl
      try replace h3f := of_decide_eq_false h3f
      refine AW.skip ?_
      refine AW.region ?_
      refine AWL.y rfl rfl (B rfl) (Yv.assign rfl (E rfl rfl)) ?_
      refine AWL.nil ?_
      refine AW.dropAt 4 ?_
      refine AW.region ?_
      refine AWL.y rfl rfl (B rfl) (Yv.addN_i64 rfl (E rfl rfl) (E rfl rfl) (fun hg => by omega)) ?_
      refine AWL.y rfl rfl (B rfl) (Yv.move rfl (E rfl rfl)) ?_
      refine AWL.nil ?_
      have hnv : newS l tg (plF sz) sz j = 5 := by
        rw [newS_out (by simp only [Bool.or_eq_true, Bool.and_eq_true, Bool.or_eq_false_iff, Bool.and_eq_false_iff, Bool.not_eq_true', Bool.not_eq_false', decide_eq_true_eq, decide_eq_false_iff_not, Decidable.not_not, ne_eq] at h1fr; rw [hmg (by omega)] at h1fr; omega) (by simp only [Bool.or_eq_true, Bool.and_eq_true, Bool.or_eq_false_iff, Bool.and_eq_false_iff, Bool.not_eq_true', Bool.not_eq_false', decide_eq_true_eq, decide_eq_false_iff_not, Decidable.not_not, ne_eq] at h1fr; rw [hmg (by omega)] at h1fr; omega) h2tr]
        rw [if_neg h3f]
      have hne := mix_ne (l := l) (tg := tg) (p := plF sz) (show j < sz.length by omega) (by rw [hnv]; have := hmg (by omega); simp only [Bool.or_eq_true, Bool.and_eq_true, Bool.or_eq_false_iff, Bool.and_eq_false_iff, Bool.not_eq_true', Bool.not_eq_false', decide_eq_true_eq, decide_eq_false_iff_not, Decidable.not_not, ne_eq] at h1fr; rw [hmg (by omega)] at h1fr; omega)
      refine ⟨j + 1, by omega, by omega, Sub.cons rfl rfl (Sub.cons rfl rfl (Sub.cons rfl (by rw [decide_eq_true hne]; rfl) (Sub.cons rfl rfl (Sub.cons rfl rfl (Sub.cons rfl (by simp) Sub.nil))))), ?_⟩
      unfold LB
      rw [← mix_setU (v := 5) (by omega) hnv]
      rfl
     have h2fr := h2f
     try replace h2f := of_decide_eq_false h2f
     refine AW.skip ?_
     refine AW.dropAt 4 ?_
     refine AW.region ?_
     refine AWL.y rfl rfl (B rfl) (Yv.addN_i64 rfl (E rfl rfl) (E rfl rfl) (fun hg => by omega)) ?_
     refine AWL.y rfl rfl (B rfl) (Yv.move rfl (E rfl rfl)) ?_
     refine AWL.nil ?_
     have hsm := mix_same (l := l) (tg := tg) (p := plF sz) (show j < sz.length by omega) (newS_in h2fr)
     refine ⟨j + 1, by omega, by omega, Sub.cons rfl rfl (Sub.cons rfl rfl (Sub.cons rfl (by rw [hsm]) (Sub.cons rfl rfl (Sub.cons rfl rfl (Sub.cons rfl (by simp) Sub.nil))))), ?_⟩
     rw [hsm]
     rfl
    try replace h0f := of_decide_eq_false h0f
    refine AW.exit ?_
    refine AW.rseq ?_
    refine AWL.y rfl rfl (B rfl) (Yv.move rfl (E rfl rfl)) ?_
    refine AWL.y rfl rfl (B rfl) (Yv.not rfl (E rfl rfl)) ?_
    refine AWL.nil ?_
    refine AW.cond rfl (fun h4t => ?_) (fun h4f => ?_)
    ·
     try replace h4t := of_decide_eq_true h4t
     obtain rfl : j = sz.length := by omega
     rw [mix_all] at *
     have hmore : roundF l tg (plF sz) sz = sz := by simpa using h4t
     refine AW.exit ?_
     refine AW.rseq ?_
     refine AWL.y rfl rfl (B rfl) (Yv.move rfl (E rfl rfl)) ?_
     refine AWL.y rfl rfl (B rfl) (Yv.assign rfl (E rfl rfl)) ?_
     refine AWL.nil ?_
     refine AW.ret (retI (.tmp rfl .nil) ?_)
     rw [grow_exit hfu hgr hmore, hmore]
     exact ⟨_, rfl, rfl⟩
    try replace h4f := of_decide_eq_false h4f
    obtain rfl : j = sz.length := by omega
    rw [mix_all] at *
    have hmore : roundF l tg (plF sz) sz ≠ sz := by simpa using h4f
    refine AW.dropAt 3 ?_
    refine AW.skip ?_
    obtain ⟨g, hg1, hg2⟩ := grow_go hfu hgr hmore
    refine ⟨roundF l tg (plF sz) sz, ⟨by rw [roundF_len]; exact hsl, round_le l tg _ sz hs, g, hg1, hg2⟩, round_count l tg _ sz hmore, Sub.cons rfl rfl Sub.nil, ?_⟩
    rfl

end Go.Proofs.Ytabkedlmpaoloaa
