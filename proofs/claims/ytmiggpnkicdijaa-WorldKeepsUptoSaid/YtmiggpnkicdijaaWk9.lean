/-
  CONTRACTS of the laws: known; walked by program.
-/
import Derived.Test.YtmiggpnkicdijaaWk8
import Derived.Test.YtmiggpnkicdijaaKnown
namespace Go.Proofs.Ytmiggpnkicdijaa
open Go Go.RowKit
set_option linter.unusedVariables false

set_option maxHeartbeats 1000000 in
theorem known10  :
    ACalls Try.prog 10 [] [] (fun t S => t = .v (.bool true)) := by
  refine ACalls.intro Try.func10 rfl Try.ntmps10 (Nat.le_of_ble_eq_true rfl) rfl fun X w0 => ?_
  refine AW.rseq ?_
  refine AWL.y rfl rfl (B rfl) (Yv.assign rfl (E rfl rfl)) ?_
  refine AWL.nil ?_
  refine AW.rseq ?_
  refine AWL.y rfl rfl (B rfl) (Yv.buildS rfl sh_28 (evpC (E rfl rfl) evp0) (fun _ => rfl)) ?_
  refine AWL.retype (k := 7) (t := .agg [sv [97, 98, 10, 99], .v (.slice none 0 0)]) (t' := worldT [97, 98, 10, 99] []) rfl (world_nil _) ?_
  refine AWL.call rfl rfl (B rfl) rfl ce_9 (E rfl rfl) (evsC (E rfl rfl) evs0) (S1 := []) (S2 := _) rfl (New9 [97, 98, 10, 99] [] (by decide) (by decide) (fun x hx => by cases hx)) ?_
  rintro t8 S8 ⟨b, m, fl, rfl, rfl, hfl⟩
  obtain rfl := fl_nil hfl
  have hw0 : WB 4 ⟨[], [97, 98, 10, 99], opn0, [], none, 0⟩ := new_wb (l := []) rfl (by decide) (fun x hx => by cases hx)
  refine AWL.eqS (List.append_nil _) ?_
  refine AWL.y rfl rfl (B rfl) (Yv.assign rfl (E rfl rfl)) ?_
  refine AWL.nil ?_
  refine AW.seq ?_
  refine AW.rseq ?_
  refine AWL.y rfl rfl (B rfl) (Yv.move rfl (E rfl rfl)) ?_
  refine AWL.y rfl rfl (B rfl) (Yv.eqlNilP rfl pn_24 (E rfl rfl)) ?_
  refine AWL.nil ?_
  refine AW.cond rfl (fun h0t => ?_) (fun h0f => ?_)
  ·
    try replace h0t := of_decide_eq_true h0t
    cases h0t
  ·
    try replace h0f := of_decide_eq_false h0f
    refine AW.skip ?_
    refine AW.rseq ?_
    refine AWL.y rfl rfl (B rfl) (Yv.move rfl (E rfl rfl)) ?_
    refine AWL.callAll rfl rfl (B rfl) rfl ce_16 (E rfl rfl) (evsC (E rfl rfl) evs0) (Line16 b m ⟨[], [97, 98, 10, 99], opn0, [], none, 0⟩ 4 hw0 (by decide)) ?_
    rintro t12 S12 ⟨rfl, rfl⟩
    refine AWL.retype (k := 12) (t' := sv [97, 98, 10]) rfl (fun w L u h => by
      have h2 : VRep w L (sv (List.take (lineN [97, 98, 10, 99]) [97, 98, 10, 99])) u := h
      rw [line_ab] at h2
      exact h2) ?_
    refine AWL.eqS (S' := WSt b m ⟨[], [99], opn0, [], none, 0⟩) (by
      show WSt b m ⟨[], List.drop (lineN [97, 98, 10, 99]) [97, 98, 10, 99], opn0, [], none, 0⟩ = _
      rw [rest_ab]) ?_
    have hw1 : WB 4 ⟨[], [99], opn0, [], none, 0⟩ := new_wb (l := []) rfl (by decide) (fun x hx => by cases hx)
    refine AWL.y rfl rfl (B rfl) (Yv.assign rfl (E rfl rfl)) ?_
    refine AWL.nil ?_
    refine AW.rseq ?_
    refine AWL.y rfl rfl (B rfl) (Yv.move rfl (E rfl rfl)) ?_
    refine AWL.callAll rfl rfl (B rfl) rfl ce_28 (E rfl rfl) (evsC (E rfl rfl) (evsC (E rfl rfl) (evsC (E rfl rfl) evs0))) (WriteFile28 b m ⟨[], [99], opn0, [], none, 0⟩ [102] [120, 121, 122] 4 hw1 (by decide) (by decide) List.nodup_nil) ?_
    rintro t14 S14 hR14
    obtain ⟨_, rfl, ws2, rfl, s1, s2, s3, s4, s5, q, hq, hqn, hqb⟩ := hR14.resolve_left (fun q => absurd q.1 (by decide))
    have s2 : ws2.opn = opn0 := s2.trans (by decide)
    have s3 : ws2.trace = [⟨3, [102], [120, 121, 122]⟩] := s3.trans (by decide)
    have hhas := has_of hq hqn
    have hor : openR [102] 0 ws2 = 3 := (openR_read (by decide) (by decide) (by decide) hhas (by rw [s2]; decide)).trans (by rw [s2]; decide)
    refine AWL.y rfl rfl (B rfl) (Yv.assign rfl (E rfl rfl)) ?_
    refine AWL.nil ?_
    refine AW.rseq ?_
    refine AWL.y rfl rfl (B rfl) (Yv.move rfl (E rfl rfl)) ?_
    refine AWL.callAll rfl rfl (B rfl) rfl ce_19 (E rfl rfl) (evsC (E rfl rfl) (evsC (E rfl rfl) evs0)) (ReadFile19 b m ws2 [102] (4 + 3 + 2) s5 (by decide) s4) ?_
    rintro t17 S17 hR17
    obtain ⟨_, q2, hq2, hqn2, rfl, rfl⟩ := hR17.resolve_left (fun q => by rw [hor] at q; exact absurd q.1 (by decide))
    obtain rfl := uniq_ix s4 hq hq2 (hqn.trans hqn2.symm)
    rw [hqb]
    refine AWL.eqS (S' := WSt b m { ws2 with opn := opn0 }) (by rw [s2]; rfl) ?_
    have hw3 : WB (4 + 3 + 2) { ws2 with opn := opn0 } := by rw [← s2]; exact s5
    refine AWL.y rfl rfl (B rfl) (Yv.move rfl (E rfl rfl)) ?_
    refine AWL.y rfl rfl (B rfl) (Yv.extract rfl (E rfl rfl) rfl) ?_
    refine AWL.y rfl rfl (B rfl) (Yv.extract rfl (E rfl rfl) rfl) ?_
    refine AWL.y rfl rfl (B rfl) (Yv.assign rfl (E rfl rfl)) ?_
    refine AWL.y rfl rfl (B rfl) (Yv.assign rfl (E rfl rfl)) ?_
    refine AWL.nil ?_
    refine AW.rseq ?_
    refine AWL.y rfl rfl (B rfl) (Yv.move rfl (E rfl rfl)) ?_
    refine AWL.callAll rfl rfl (B rfl) rfl ce_12 (E rfl rfl) (evsC (E rfl rfl) (evsC (E rfl rfl) evs0)) (Out12 b m { ws2 with opn := opn0 } [113] (4 + 3 + 2) rfl hw3 (by decide) (by decide)) ?_
    rintro t21 S21 ⟨A21, c21, rfl⟩
    have ht4 : sayF 1 [] [113] ws2.trace = [⟨3, [102], [120, 121, 122]⟩, ⟨1, [], [113]⟩] := by rw [s3]; decide
    refine AWL.eqS (S' := WSt b m { ws2 with opn := opn0, trace := [⟨3, [102], [120, 121, 122]⟩, ⟨1, [], [113]⟩], tA := A21, tc := c21 }) (by rw [← ht4]) ?_
    have hw4 : WB (4 + 3 + 2) { ws2 with opn := opn0, trace := [⟨3, [102], [120, 121, 122]⟩, ⟨1, [], [113]⟩], tA := A21, tc := c21 } := ⟨rfl, (by decide : 2 ≤ 9), fun e he => (by
        have he : e ∈ ([⟨3, [102], [120, 121, 122]⟩, ⟨1, [], [113]⟩] : List Evt) := he
        simp only [List.mem_cons, List.not_mem_nil, or_false] at he
        rcases he with rfl | rfl <;> decide), s5.fl, fun d hd => hw3.pl d hd, s5.sin⟩
    refine AWL.nil ?_
    refine AW.rseq ?_
    refine AWL.y rfl rfl (B rfl) (Yv.move rfl (E rfl rfl)) ?_
    refine AWL.callAll rfl rfl (B rfl) rfl ce_14 (E rfl rfl) (evsC (E rfl rfl) evs0) (Trace14 b m { ws2 with opn := opn0, trace := [⟨3, [102], [120, 121, 122]⟩, ⟨1, [], [113]⟩], tA := A21, tc := c21 } (4 + 3 + 2) hw4 (by decide)) ?_
    rintro t23 S23 ⟨rfl, rfl⟩
    refine AWL.y rfl rfl (B rfl) (Yv.assign rfl (E rfl rfl)) ?_
    refine AWL.nil ?_
    refine AW.rseq ?_
    refine AWL.y rfl rfl (B rfl) (Yv.move rfl (E rfl rfl)) ?_
    refine AWL.y rfl rfl (B rfl) (Yv.eqlL rfl (E rfl rfl) (E rfl rfl)) ?_
    refine AWL.y rfl rfl (B rfl) (Yv.move rfl (E rfl rfl)) ?_
    refine AWL.ygT rfl rfl rfl rfl (B rfl) (Yv.move rfl (E rfl rfl)) ?_
    refine AWL.y rfl rfl (B rfl) (Yv.pickAnd rfl (E rfl rfl) (Eg rfl rfl id)) ?_
    refine AWL.y rfl rfl (B rfl) (Yv.move rfl (E rfl rfl)) ?_
    refine AWL.ygT rfl rfl rfl rfl (B rfl) (Yv.move rfl (E rfl rfl)) ?_
    refine AWL.y rfl rfl (B rfl) (Yv.pickAnd rfl (E rfl rfl) (Eg rfl rfl id)) ?_
    refine AWL.y rfl rfl (B rfl) (Yv.move rfl (E rfl rfl)) ?_
    refine AWL.ygT rfl rfl rfl rfl (B rfl) (Yv.move rfl (E rfl rfl)) ?_
    refine AWL.ygT rfl rfl rfl rfl (B rfl) (Yv.eqlL rfl (Eg rfl rfl id) (E rfl rfl)) ?_
    refine AWL.y rfl rfl (B rfl) (Yv.pickAnd rfl (E rfl rfl) (Eg rfl rfl id)) ?_
    refine AWL.y rfl rfl (B rfl) (Yv.move rfl (E rfl rfl)) ?_
    refine AWL.ygT rfl rfl rfl rfl (B rfl) (Yv.move rfl (E rfl rfl)) ?_
    refine AWL.ygT rfl rfl rfl rfl (B rfl) (Yv.lenSl rfl so_33 (B rfl) (Eg rfl rfl id) len_ev) ?_
    refine AWL.ygT rfl rfl rfl rfl (B rfl) (Yv.eql rfl (Eg rfl rfl id) (E rfl rfl)) ?_
    refine AWL.y rfl rfl (B rfl) (Yv.pickAnd rfl (E rfl rfl) (Eg rfl rfl id)) ?_
    refine AWL.y rfl rfl (B rfl) (Yv.move rfl (E rfl rfl)) ?_
    refine AWL.ygT rfl rfl rfl rfl (B rfl) (Yv.move rfl (E rfl rfl)) ?_
    refine AWL.ygT rfl rfl rfl rfl (B rfl) (Yv.indexSl (j := 0) rfl ss_33 (B rfl) (E rfl rfl) (Eg rfl rfl id) (fun hg => ⟨rfl, (by decide : 0 * 3 < 6)⟩)) ?_
    refine AWL.ygT rfl rfl rfl rfl (B rfl) (Yv.fieldRp rfl fo_36_2 (Eg rfl rfl id)) ?_
    refine AWL.ygT rfl rfl rfl rfl (B rfl) (Yv.loadRp rfl ag_9 (Eg rfl rfl id) (fun _ => rfl)) ?_
    refine AWL.ygT rfl rfl rfl rfl (B rfl) (Yv.eqlL rfl (Eg rfl rfl id) (E rfl rfl)) ?_
    refine AWL.y rfl rfl (B rfl) (Yv.pickAnd rfl (E rfl rfl) (Eg rfl rfl id)) ?_
    refine AWL.y rfl rfl (B rfl) (Yv.move rfl (E rfl rfl)) ?_
    refine AWL.ygT rfl rfl rfl rfl (B rfl) (Yv.move rfl (E rfl rfl)) ?_
    refine AWL.ygT rfl rfl rfl rfl (B rfl) (Yv.indexSl (j := 1) rfl ss_33 (B rfl) (E rfl rfl) (Eg rfl rfl id) (fun hg => ⟨rfl, (by decide : 1 * 3 < 6)⟩)) ?_
    refine AWL.ygT rfl rfl rfl rfl (B rfl) (Yv.fieldRp rfl fo_36_0 (Eg rfl rfl id)) ?_
    refine AWL.ygT rfl rfl rfl rfl (B rfl) (Yv.loadRp rfl ag_3 (Eg rfl rfl id) (fun _ => rfl)) ?_
    refine AWL.ygT rfl rfl rfl rfl (B rfl) (Yv.eql rfl (Eg rfl rfl id) (E rfl rfl)) ?_
    refine AWL.y rfl rfl (B rfl) (Yv.pickAnd rfl (E rfl rfl) (Eg rfl rfl id)) ?_
    refine AWL.y rfl rfl (B rfl) (Yv.assign rfl (E rfl rfl)) ?_
    refine AWL.nil ?_
    refine AW.ret (retI (.tmp rfl .nil) ?_)
    first | rfl | decide

end Go.Proofs.Ytmiggpnkicdijaa
