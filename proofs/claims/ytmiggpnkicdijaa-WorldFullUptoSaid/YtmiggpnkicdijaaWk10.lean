/-
  CONTRACTS of the laws: Lines, Full; walked by program.
-/
import Derived.Test.YtmiggpnkicdijaaWk9
import Derived.Test.YtmiggpnkicdijaaLaws
namespace Go.Proofs.Ytmiggpnkicdijaa
open Go Go.RowKit
set_option linter.unusedVariables false

set_option maxHeartbeats 1000000 in
theorem WorldLines4 (stdin : List UInt8) (hs : stdin.length ≤ 1099511627776) :
    ACalls Try.prog 4 [sv stdin] [] (fun t S => t = .v (.bool true)) := by
  refine ACalls.intro Try.func4 rfl Try.ntmps4 (Nat.le_of_ble_eq_true rfl) rfl fun X w0 => ?_
  refine AW.rseq ?_
  refine AWL.y rfl rfl (B rfl) (Yv.assign rfl (E rfl rfl)) ?_
  refine AWL.nil ?_
  refine AW.rseq ?_
  refine AWL.y rfl rfl (B rfl) (Yv.move rfl (E rfl rfl)) ?_
  refine AWL.y rfl rfl (B rfl) (Yv.buildS rfl sh_28 (evpC (E rfl rfl) evp0) (fun _ => rfl)) ?_
  refine AWL.retype (k := 8) (t := .agg [sv stdin, .v (.slice none 0 0)]) (t' := worldT stdin []) rfl (world_nil _) ?_
  refine AWL.call rfl rfl (B rfl) rfl ce_9 (E rfl rfl) (evsC (E rfl rfl) evs0) (S1 := []) (S2 := _) rfl (New9 stdin [] (by first | decide | omega) (by decide) (fun x hx => by cases hx)) ?_
  rintro t9 S9 ⟨b, m, fl, rfl, rfl, hfl⟩
  obtain rfl := fl_nil hfl
  have hw0 : WB stdin.length ⟨[], stdin, opn0, [], none, 0⟩ := new_wb (l := []) rfl (by first | exact Nat.le_refl _ | decide) (fun x hx => by cases hx)
  refine AWL.eqS (List.append_nil _) ?_
  refine AWL.y rfl rfl (B rfl) (Yv.assign rfl (E rfl rfl)) ?_
  refine AWL.nil ?_
  refine AW.seq ?_
  refine AW.rseq ?_
  refine AWL.y rfl rfl (B rfl) (Yv.move rfl (E rfl rfl)) ?_
  refine AWL.y rfl rfl (B rfl) (Yv.eqlNilP rfl pn_24 (E rfl rfl)) ?_
  refine AWL.y rfl rfl (B rfl) (Yv.move rfl (E rfl rfl)) ?_
  refine AWL.callPgF rfl rfl rfl rfl (B rfl) rfl ce_10 (E rfl rfl) evs0 (fun hg => known10) (fun t S h => h) ?_
  refine AWL.ygF rfl rfl rfl rfl (B rfl) (Yv.not rfl (Eg rfl rfl id)) ?_
  refine AWL.y rfl rfl (B rfl) (Yv.pickOr (t := .const (.bool true)) rfl (E rfl rfl) (Eg rfl rfl id)) ?_
  refine AWL.nil ?_
  refine AW.cond rfl (fun h0t => ?_) (fun h0f => ?_)
  ·
    try replace h0t := of_decide_eq_true h0t
    cases h0t
  ·
    try replace h0f := of_decide_eq_false h0f
    refine AW.skip ?_
    refine AW.rseq ?_
    refine AWL.y rfl rfl (B rfl) (Yv.assign rfl (E rfl rfl)) ?_
    refine AWL.nil ?_
    refine AW.block ?_
    refine AW.loop2 (fun (rest : List UInt8) (all : List UInt8) => [(0, true, sv stdin), (3, true, wp b), (4, true, sv all)]) (fun (rest : List UInt8) (all : List UInt8) => (WSt b m ⟨[], rest, opn0, [], none, 0⟩)) (fun (rest : List UInt8) (all : List UInt8) => all ++ rest = stdin) (fun (rest : List UInt8) (all : List UInt8) => rest.length) stdin ([]) ?_ ?_ ?_ ?_
    · rfl
    · exact (Sub.cons rfl rfl (Sub.cons rfl rfl (Sub.cons rfl rfl Sub.nil)))
    · rfl
    ·
      intro rest all hall
      have hlen2 : all.length + rest.length = stdin.length := by rw [← hall, List.length_append]
      have hle := lineN_le rest
      have hwr : WB stdin.length ⟨[], rest, opn0, [], none, 0⟩ := ⟨rfl, Nat.zero_le _, hw0.txt, hw0.fl, hw0.pl, by show rest.length ≤ _; omega⟩
      have hwr2 : WB stdin.length ⟨[], (rest.drop (lineN rest)), opn0, [], none, 0⟩ := ⟨rfl, Nat.zero_le _, hw0.txt, hw0.fl, hw0.pl, by show (rest.drop _).length ≤ _; rw [List.length_drop]; omega⟩
      refine AW.block ?_
      refine AW.rseq ?_
      refine AWL.y rfl rfl (B rfl) (Yv.move rfl (E rfl rfl)) ?_
      refine AWL.callAll rfl rfl (B rfl) rfl ce_16 (E rfl rfl) (evsC (E rfl rfl) evs0) (Line16 b m ⟨[], rest, opn0, [], none, 0⟩ stdin.length hwr (by omega)) ?_
      rintro t17 S17 ⟨rfl, rfl⟩
      refine AWL.retype (k := 17) (t' := sv (rest.take (lineN rest))) rfl (fun w L u h => h) ?_
      refine AWL.eqS (S' := WSt b m ⟨[], (rest.drop (lineN rest)), opn0, [], none, 0⟩) rfl ?_
      refine AWL.y rfl rfl (B rfl) (Yv.assign rfl (E rfl rfl)) ?_
      refine AWL.nil ?_
      refine AW.seq ?_
      refine AW.rseq ?_
      refine AWL.y rfl rfl (B rfl) (Yv.move rfl (E rfl rfl)) ?_
      refine AWL.y rfl rfl (B rfl) (Yv.eqlL rfl (E rfl rfl) (E rfl rfl)) ?_
      refine AWL.nil ?_
      refine AW.cond rfl (fun h1t => ?_) (fun h1f => ?_)
      ·
        try replace h1t := of_decide_eq_true h1t
        have hr := line_nil h1t
        have ha : all = stdin := by rw [hr, List.append_nil] at hall; exact hall
        refine AW.rseq ?_
        refine AWL.y rfl rfl (B rfl) (Yv.move rfl (E rfl rfl)) ?_
        refine AWL.y rfl rfl (B rfl) (Yv.move rfl (E rfl rfl)) ?_
        refine AWL.y rfl rfl (B rfl) (Yv.eqlL rfl (E rfl rfl) (E rfl rfl)) ?_
        refine AWL.y rfl rfl (B rfl) (Yv.move rfl (E rfl rfl)) ?_
        refine AWL.unguard rfl rfl rfl (decide_eq_true ha) ?_
        refine AWL.y rfl rfl (B rfl) (Yv.move rfl (E rfl rfl)) ?_
        refine AWL.unguard rfl rfl rfl (decide_eq_true ha) ?_
        refine AWL.callAll rfl rfl (B rfl) rfl ce_14 (E rfl rfl) (evsC (E rfl rfl) evs0) (Trace14 b m ⟨[], (rest.drop (lineN rest)), opn0, [], none, 0⟩ stdin.length hwr2 (by omega)) ?_
        rintro t25 S25 ⟨rfl, rfl⟩
        refine AWL.unguard rfl rfl rfl (decide_eq_true ha) ?_
        refine AWL.y rfl rfl (B rfl) (Yv.lenSl rfl so_33 (B rfl) (E rfl rfl) len_ev) ?_
        refine AWL.unguard rfl rfl rfl (decide_eq_true ha) ?_
        refine AWL.y rfl rfl (B rfl) (Yv.eql rfl (E rfl rfl) (E rfl rfl)) ?_
        refine AWL.y rfl rfl (B rfl) (Yv.pickAnd rfl (E rfl rfl) (E rfl rfl)) ?_
        refine AWL.y rfl rfl (B rfl) (Yv.assign rfl (E rfl rfl)) ?_
        refine AWL.nil ?_
        refine AW.ret (retI (.tmp rfl .nil) ?_)
        rw [decide_eq_true ha]; rfl
      ·
        try replace h1f := of_decide_eq_false h1f
        have hpos : 0 < (rest.take (lineN rest)).length := List.length_pos_iff.2 h1f
        have hln := line_len rest
        refine AW.skip ?_
        refine AW.seq ?_
        refine AW.rseq ?_
        refine AWL.y rfl rfl (B rfl) (Yv.assign rfl (E rfl rfl)) ?_
        refine AWL.nil ?_
        refine AW.block ?_
        refine AW.loop (fun (k : Nat) => [(0, true, sv stdin), (3, true, wp b), (4, true, sv all), (5, true, sv (rest.take (lineN rest))), (6, true, .v (.int .i64 (k : Int)))]) (fun (k : Nat) => (WSt b m ⟨[], (rest.drop (lineN rest)), opn0, [], none, 0⟩)) (fun (k : Nat) => k ≤ (rest.take (lineN rest)).length) (fun (k : Nat) => (rest.take (lineN rest)).length - k) 0 ?_ ?_ ?_ ?_
        · exact Nat.zero_le _
        · exact (Sub.cons rfl rfl (Sub.cons rfl rfl (Sub.cons rfl rfl (Sub.cons rfl rfl (Sub.cons rfl rfl Sub.nil)))))
        · rfl
        ·
          intro k hinv
          refine AW.seq ?_
          refine AW.rseq ?_
          refine AWL.y rfl rfl (B rfl) (Yv.move rfl (E rfl rfl)) ?_
          refine AWL.y rfl rfl (B rfl) (Yv.move rfl (E rfl rfl)) ?_
          refine AWL.y rfl rfl (B rfl) (Yv.lenL rfl st_9 (E rfl rfl)) ?_
          refine AWL.y rfl rfl (B rfl) (Yv.lss rfl (E rfl rfl) (E rfl rfl)) ?_
          refine AWL.nil ?_
          refine AW.cond rfl (fun h2t => ?_) (fun h2f => ?_)
          ·
            try replace h2t := of_decide_eq_true h2t
            refine AW.skip ?_
            refine AW.seq ?_
            refine AW.block ?_
            refine AW.rseq ?_
            refine AWL.y rfl rfl (B rfl) (Yv.move rfl (E rfl rfl)) ?_
            refine AWL.y rfl rfl (B rfl) (Yv.move rfl (E rfl rfl)) ?_
            refine AWL.y rfl rfl (B rfl) (Yv.indexL rfl st_9 (E rfl rfl) (E rfl rfl) (fun hg => ⟨rfl, by omega⟩)) ?_
            refine AWL.y rfl rfl (B rfl) (Yv.eql rfl (E rfl rfl) (E rfl rfl)) ?_
            refine AWL.y rfl rfl (B rfl) (Yv.move rfl (E rfl rfl)) ?_
            refine AWL.ygT rfl rfl rfl rfl (B rfl) (Yv.move rfl (E rfl rfl)) ?_
            refine AWL.ygT rfl rfl rfl rfl (B rfl) (Yv.move rfl (E rfl rfl)) ?_
            refine AWL.ygT rfl rfl rfl rfl (B rfl) (Yv.lenL rfl st_9 (Eg rfl rfl id)) ?_
            refine AWL.ygT rfl rfl rfl rfl (B rfl) (Yv.subN_i64 rfl (Eg rfl rfl id) (E rfl rfl) (fun hg => by first | omega | (simp only [Bool.and_eq_true, Bool.or_eq_false_iff, Bool.not_eq_true', Bool.not_eq_false', decide_eq_true_eq, decide_eq_false_iff_not] at hg; omega))) ?_
            refine AWL.ygT rfl rfl rfl rfl (B rfl) (Yv.lss rfl (Eg rfl rfl id) (Eg rfl rfl id)) ?_
            refine AWL.y rfl rfl (B rfl) (Yv.pickAnd rfl (E rfl rfl) (Eg rfl rfl id)) ?_
            refine AWL.nil ?_
            refine AW.cond rfl (fun h3t => ?_) (fun h3f => ?_)
            ·
              try replace h3t := of_decide_eq_true h3t
              exfalso
              simp only [Bool.or_eq_true, Bool.and_eq_true, Bool.or_eq_false_iff, Bool.and_eq_false_iff, Bool.not_eq_true', Bool.not_eq_false', decide_eq_true_eq, decide_eq_false_iff_not, Decidable.not_not] at h3t
              exact line_before (s := rest) (j := k) (by omega) (UInt8.toNat_inj.1 (by show UInt8.toNat _ = 10; omega))
            ·
              try replace h3f := of_decide_eq_false h3f
              refine AW.skip ?_
              refine AW.region ?_
              refine AWL.y rfl rfl (B rfl) (Yv.move rfl (E rfl rfl)) ?_
              refine AWL.y rfl rfl (B rfl) (Yv.addN_i64 rfl (E rfl rfl) (E rfl rfl) (fun hg => by omega)) ?_
              refine AWL.y rfl rfl (B rfl) (Yv.assign rfl (E rfl rfl)) ?_
              refine AWL.nil ?_
              refine ⟨k + 1, by omega, by omega, (Sub.cons rfl rfl (Sub.cons rfl rfl (Sub.cons rfl rfl (Sub.cons rfl rfl (Sub.cons rfl (by simp) Sub.nil))))), rfl⟩
          ·
            try replace h2f := of_decide_eq_false h2f
            refine AW.exit ?_
            refine AW.rseq ?_
            refine AWL.y rfl rfl (B rfl) (Yv.move rfl (E rfl rfl)) ?_
            refine AWL.y rfl rfl (B rfl) (Yv.move rfl (E rfl rfl)) ?_
            refine AWL.y rfl rfl (B rfl) (Yv.addL rfl (E rfl rfl) (E rfl rfl) (fun hg => by omega)) ?_
            refine AWL.y rfl rfl (B rfl) (Yv.assign rfl (E rfl rfl)) ?_
            refine AWL.nil ?_
            refine AW.rseq ?_
            refine AWL.y rfl rfl (B rfl) (Yv.move rfl (E rfl rfl)) ?_
            refine AWL.y rfl rfl (B rfl) (Yv.lenL rfl st_9 (E rfl rfl)) ?_
            refine AWL.y rfl rfl (B rfl) (Yv.move rfl (E rfl rfl)) ?_
            refine AWL.y rfl rfl (B rfl) (Yv.lenL rfl st_9 (E rfl rfl)) ?_
            refine AWL.y rfl rfl (B rfl) (Yv.gtr rfl (E rfl rfl) (E rfl rfl)) ?_
            refine AWL.y rfl rfl (B rfl) (Yv.move rfl (E rfl rfl)) ?_
            refine AWL.ygF rfl rfl rfl rfl (B rfl) (Yv.move rfl (E rfl rfl)) ?_
            refine AWL.ygF rfl rfl rfl rfl (B rfl) (Yv.move rfl (E rfl rfl)) ?_
            refine AWL.ygF rfl rfl rfl rfl (B rfl) (Yv.lenL rfl st_9 (Eg rfl rfl id)) ?_
            refine AWL.ygF rfl rfl rfl rfl (B rfl) (Yv.subN_i64 rfl (Eg rfl rfl id) (E rfl rfl) (fun hg => by first | omega | (simp only [Bool.and_eq_true, Bool.or_eq_false_iff, Bool.not_eq_true', Bool.not_eq_false', decide_eq_true_eq, decide_eq_false_iff_not] at hg; omega))) ?_
            refine AWL.ygF rfl rfl rfl rfl (B rfl) (Yv.indexL rfl st_9 (Eg rfl rfl id) (Eg rfl rfl id) (fun hg => ⟨(show (((rest.take (lineN rest)).length : Int) - 1 = (((rest.take (lineN rest)).length - 1 : Nat) : Int)) by omega), by omega⟩)) ?_
            refine AWL.ygF rfl rfl rfl rfl (B rfl) (Yv.neq rfl (Eg rfl rfl id) (E rfl rfl)) ?_
            refine AWL.ygF rfl rfl rfl rfl (B rfl) (Yv.move rfl (Eg rfl rfl id)) ?_
            refine AWL.ygT rfl rfl rfl rfl (B rfl) (Yv.move rfl (E rfl rfl)) ?_
            refine AWL.ygT rfl rfl rfl rfl (B rfl) (Yv.lenL rfl st_9 (Eg rfl rfl id)) ?_
            refine AWL.ygT rfl rfl rfl rfl (B rfl) (Yv.move rfl (E rfl rfl)) ?_
            refine AWL.ygT rfl rfl rfl rfl (B rfl) (Yv.lenL rfl st_9 (Eg rfl rfl id)) ?_
            refine AWL.ygT rfl rfl rfl rfl (B rfl) (Yv.lss rfl (Eg rfl rfl id) (Eg rfl rfl id)) ?_
            refine AWL.ygF rfl rfl rfl rfl (B rfl) (Yv.pickAnd rfl (Eg rfl rfl id) (Eg rfl rfl id)) ?_
            refine AWL.y rfl rfl (B rfl) (Yv.pickOr (t := .const (.bool true)) rfl (E rfl rfl) (Eg rfl rfl id)) ?_
            refine AWL.nil ?_
            refine AW.cond rfl (fun h4t => ?_) (fun h4f => ?_)
            ·
              try replace h4t := of_decide_eq_true h4t
              exfalso
              simp only [Bool.or_eq_true, Bool.and_eq_true, Bool.or_eq_false_iff, Bool.and_eq_false_iff, Bool.not_eq_true', Bool.not_eq_false', decide_eq_true_eq, decide_eq_false_iff_not, Decidable.not_not] at h4t
              rw [List.length_append] at h4t
              rcases h4t with h | ⟨h, h2⟩
              · omega
              · rcases line_last (s := rest) (by omega) with e | e
                · rw [hln, e] at h; exact h rfl
                · omega
            ·
              try replace h4f := of_decide_eq_false h4f
              refine AW.skip ?_
              refine ⟨rest.drop (lineN rest), all ++ (rest.take (lineN rest)), ?_, ?_, (Sub.cons rfl rfl (Sub.cons rfl rfl (Sub.cons rfl rfl Sub.nil))), rfl⟩
              · rw [List.append_assoc, List.take_append_drop]; exact hall
              · rw [List.length_drop]; omega

set_option maxHeartbeats 1000000 in
theorem WorldFull5 (name : List UInt8) (which : Int) (h1 : -9223372036854775808 ≤ which) (h2 : which ≤ 9223372036854775807) :
    ACalls Try.prog 5 [sv name, .v (.int .i64 which)] [] (fun t S => t = .v (.bool true)) := by
  refine ACalls.intro Try.func5 rfl Try.ntmps5 (Nat.le_of_ble_eq_true rfl) rfl fun X w0 => ?_
  refine AW.rseq ?_
  refine AWL.y rfl rfl (B rfl) (Yv.assign rfl (E rfl rfl)) ?_
  refine AWL.nil ?_
  refine AW.rseq ?_
  refine AWL.y rfl rfl (B rfl) (Yv.buildS rfl sh_28 evp0 (fun _ => rfl)) ?_
  refine AWL.retype (k := 13) (t := .agg [sv [], .v (.slice none 0 0)]) (t' := worldT [] []) rfl (world_nil _) ?_
  refine AWL.call rfl rfl (B rfl) rfl ce_9 (E rfl rfl) (evsC (E rfl rfl) evs0) (S1 := []) (S2 := _) rfl (New9 [] [] (by first | decide | omega) (by decide) (fun x hx => by cases hx)) ?_
  rintro t14 S14 ⟨b, m, fl, rfl, rfl, hfl⟩
  obtain rfl := fl_nil hfl
  have hw0 : WB 1 ⟨[], [], opn0, [], none, 0⟩ := new_wb (l := []) rfl (by first | exact Nat.le_refl _ | decide) (fun x hx => by cases hx)
  refine AWL.eqS (List.append_nil _) ?_
  refine AWL.y rfl rfl (B rfl) (Yv.assign rfl (E rfl rfl)) ?_
  refine AWL.nil ?_
  refine AW.seq ?_
  refine AW.rseq ?_
  refine AWL.y rfl rfl (B rfl) (Yv.move rfl (E rfl rfl)) ?_
  refine AWL.y rfl rfl (B rfl) (Yv.eqlNilP rfl pn_24 (E rfl rfl)) ?_
  refine AWL.y rfl rfl (B rfl) (Yv.move rfl (E rfl rfl)) ?_
  refine AWL.callPgF rfl rfl rfl rfl (B rfl) rfl ce_10 (E rfl rfl) evs0 (fun hg => known10) (fun t S h => h) ?_
  refine AWL.ygF rfl rfl rfl rfl (B rfl) (Yv.not rfl (Eg rfl rfl id)) ?_
  refine AWL.y rfl rfl (B rfl) (Yv.pickOr (t := .const (.bool true)) rfl (E rfl rfl) (Eg rfl rfl id)) ?_
  refine AWL.nil ?_
  refine AW.cond rfl (fun h0t => ?_) (fun h0f => ?_)
  ·
    try replace h0t := of_decide_eq_true h0t
    cases h0t
  ·
    try replace h0f := of_decide_eq_false h0f
    refine AW.skip ?_
    refine AW.rseq ?_
    refine AWL.y rfl rfl (B rfl) (Yv.move rfl (E rfl rfl)) ?_
    refine AWL.y rfl rfl (B rfl) (Yv.move rfl (E rfl rfl)) ?_
    refine AWL.callAll rfl rfl (B rfl) rfl ce_17 (E rfl rfl) (evsC (E rfl rfl) (evsC (E rfl rfl) (evsC (E rfl rfl) evs0))) (SysOpen17 b m ⟨[], [], opn0, [], none, 0⟩ name 577 1 hw0 (by decide)) ?_
    rintro t23 S23 ⟨rfl, A23, c23, tA23, tc23, rfl⟩
    refine AWL.y rfl rfl (B rfl) (Yv.assign rfl (E rfl rfl)) ?_
    refine AWL.nil ?_
    refine AW.seq ?_
    refine AW.rseq ?_
    refine AWL.y rfl rfl (B rfl) (Yv.move rfl (E rfl rfl)) ?_
    refine AWL.y rfl rfl (B rfl) (Yv.lss rfl (E rfl rfl) (E rfl rfl)) ?_
    refine AWL.nil ?_
    refine AW.cond rfl (fun h1t => ?_) (fun h1f => ?_)
    ·
      try replace h1t := of_decide_eq_true h1t
      have hv := openR_neg h1t (by decide)
      refine AW.rseq ?_
      refine AWL.y rfl rfl (B rfl) (Yv.move rfl (E rfl rfl)) ?_
      refine AWL.y rfl rfl (B rfl) (Yv.eql rfl (E rfl rfl) (E rfl rfl)) ?_
      refine AWL.y rfl rfl (B rfl) (Yv.move rfl (E rfl rfl)) ?_
      refine AWL.ygF rfl rfl rfl rfl (B rfl) (Yv.move rfl (E rfl rfl)) ?_
      refine AWL.ygF rfl rfl rfl rfl (B rfl) (Yv.eql rfl (Eg rfl rfl id) (E rfl rfl)) ?_
      refine AWL.y rfl rfl (B rfl) (Yv.pickOr (t := .const (.bool true)) rfl (E rfl rfl) (Eg rfl rfl id)) ?_
      refine AWL.y rfl rfl (B rfl) (Yv.move rfl (E rfl rfl)) ?_
      refine AWL.ygF rfl rfl rfl rfl (B rfl) (Yv.move rfl (E rfl rfl)) ?_
      refine AWL.ygF rfl rfl rfl rfl (B rfl) (Yv.eql rfl (Eg rfl rfl id) (E rfl rfl)) ?_
      refine AWL.y rfl rfl (B rfl) (Yv.pickOr (t := .const (.bool true)) rfl (E rfl rfl) (Eg rfl rfl id)) ?_
      refine AWL.y rfl rfl (B rfl) (Yv.assign rfl (E rfl rfl)) ?_
      refine AWL.nil ?_
      refine AW.ret (retI (.tmp rfl .nil) ?_)
      rcases hv with e | e | e <;> rw [e] <;> rfl
    ·
      try replace h1f := of_decide_eq_false h1f
      have hok := open_ok h1f
      have hno : NameOk name := ⟨hok.len, hok.idx, hok.ne⟩
      have h3 : openR name 577 ⟨[], [], opn0, [], none, 0⟩ = 3 := hok.is.trans (by decide)
      rw [openS_write h1f, h3]
      have hH0 : Held name 4 2 { (⟨[], [], opn0, [], none, 0⟩ : WS) with opn := opn0.set (freeIx opn0) ⟨5, name, 0⟩, files := putF ⟨name, [], A23, c23⟩ [], trace := [] ++ [⟨3, name, []⟩], tA := tA23, tc := tc23 } := by
        refine ⟨wb_open hw0 _ name A23 tA23 c23 tc23, fun i hi => ?_, fun i h1 h2 => ?_, hasK_putF ⟨name, [], A23, c23⟩ []⟩
        · show ((opn0.set 3 _).getD i default).kind ≠ 0
          rcases i with _ | _ | _ | _ | i <;> first | (show _ ≠ (0 : Int); simp [opn0]; done) | omega
        · show ((opn0.set 3 _).getD i default).kind = 0
          rw [getD_set_ne (by omega)]
          exact (show ∀ i : Fin 19, 4 ≤ i.val → (opn0.getD i.val default).kind = 0 by decide) ⟨i, h2⟩ h1
      refine AW.skip ?_
      refine AW.seq ?_
      refine AW.rseq ?_
      refine AWL.y rfl rfl (B rfl) (Yv.assign rfl (E rfl rfl)) ?_
      refine AWL.nil ?_
      refine AW.block ?_
      refine AW.loop2 (fun (i : Nat) (ws : WS) => [(0, true, sv name), (1, true, .v (.int .i64 which)), (5, true, wp b), (6, true, .v (.int .i64 3)), (7, true, .v (.int .i64 (i : Int)))]) (fun (i : Nat) (ws : WS) => (WSt b m ws)) (fun (i : Nat) (ws : WS) => 4 ≤ i ∧ i ≤ 19 ∧ Held name i 2 ws) (fun (i : Nat) (ws : WS) => 19 - i) 4 ({ (⟨[], [], opn0, [], none, 0⟩ : WS) with opn := opn0.set (freeIx opn0) ⟨5, name, 0⟩, files := putF ⟨name, [], A23, c23⟩ [], trace := [] ++ [⟨3, name, []⟩], tA := tA23, tc := tc23 }) ?_ ?_ ?_ ?_
      · exact ⟨by decide, by decide, hH0⟩
      · exact (Sub.cons rfl rfl (Sub.cons rfl rfl (Sub.cons rfl rfl (Sub.cons rfl rfl (Sub.cons rfl rfl Sub.nil)))))
      · rfl
      ·
        intro i ws hinv
        obtain ⟨hi4, hi19, hH⟩ := hinv
        refine AW.seq ?_
        refine AW.rseq ?_
        refine AWL.y rfl rfl (B rfl) (Yv.move rfl (E rfl rfl)) ?_
        refine AWL.y rfl rfl (B rfl) (Yv.lss rfl (E rfl rfl) (E rfl rfl)) ?_
        refine AWL.nil ?_
        refine AW.cond rfl (fun h2t => ?_) (fun h2f => ?_)
        ·
          try replace h2t := of_decide_eq_true h2t
          refine AW.skip ?_
          refine AW.seq ?_
          refine AW.block ?_
          refine AW.rseq ?_
          refine AWL.y rfl rfl (B rfl) (Yv.move rfl (E rfl rfl)) ?_
          refine AWL.y rfl rfl (B rfl) (Yv.move rfl (E rfl rfl)) ?_
          refine AWL.callAll rfl rfl (B rfl) rfl ce_17 (E rfl rfl) (evsC (E rfl rfl) (evsC (E rfl rfl) (evsC (E rfl rfl) evs0))) (SysOpen17 b m ws name 0 2 hH.wb (by decide)) ?_
          rintro t42 S42 ⟨rfl, A42, c42, tA42, tc42, rfl⟩
          rw [openS_read (by rw [held_open hno hH (by omega)]; omega), held_ix hH (by omega), held_open hno hH (by omega)]
          refine AWL.y rfl rfl (B rfl) (Yv.move rfl (E rfl rfl)) ?_
          refine AWL.y rfl rfl (B rfl) (Yv.neq rfl (E rfl rfl) (E rfl rfl)) ?_
          refine AWL.nil ?_
          refine AW.cond rfl (fun h3t => ?_) (fun h3f => ?_)
          ·
            try replace h3t := of_decide_eq_true h3t
            simp at h3t
          ·
            try replace h3f := of_decide_eq_false h3f
            refine AW.skip ?_
            refine AW.region ?_
            refine AWL.y rfl rfl (B rfl) (Yv.move rfl (E rfl rfl)) ?_
            refine AWL.y rfl rfl (B rfl) (Yv.addN_i64 rfl (E rfl rfl) (E rfl rfl) (fun hg => by omega)) ?_
            refine AWL.y rfl rfl (B rfl) (Yv.assign rfl (E rfl rfl)) ?_
            refine AWL.nil ?_
            refine ⟨i + 1, { ws with opn := ws.opn.set i ⟨4, name, 0⟩ }, ⟨by omega, by omega, held_next hH (by omega)⟩, by omega, (Sub.cons rfl rfl (Sub.cons rfl rfl (Sub.cons rfl rfl (Sub.cons rfl rfl (Sub.cons rfl (by simp) Sub.nil))))), rfl⟩
        ·
          try replace h2f := of_decide_eq_false h2f
          obtain rfl : i = 19 := by omega
          refine AW.exit ?_
          refine AW.rseq ?_
          refine AWL.y rfl rfl (B rfl) (Yv.move rfl (E rfl rfl)) ?_
          refine AWL.callP rfl rfl (B rfl) rfl ce_11 (E rfl rfl) (evsC (E rfl rfl) (evsC (E rfl rfl) evs0)) (pick11 which 19 h1 h2 (by decide)) (fun t S h => h) ?_
          obtain ⟨k, hk⟩ : ∃ k : Nat, pickF which 19 = (k : Int) := ⟨_, (Int.toNat_of_nonneg (by unfold pickF; omega)).symm⟩
          rw [hk]
          have hk19 : k < 19 := by unfold pickF at hk; split at hk <;> omega
          refine AWL.y rfl rfl (B rfl) (Yv.assign rfl (E rfl rfl)) ?_
          refine AWL.nil ?_
          refine AW.rseq ?_
          refine AWL.y rfl rfl (B rfl) (Yv.move rfl (E rfl rfl)) ?_
          refine AWL.y rfl rfl (B rfl) (Yv.move rfl (E rfl rfl)) ?_
          refine AWL.callAll rfl rfl (B rfl) rfl ce_17 (E rfl rfl) (evsC (E rfl rfl) (evsC (E rfl rfl) (evsC (E rfl rfl) evs0))) (SysOpen17 b m ws name 0 2 hH.wb (by decide)) ?_
          rintro t49 S49 ⟨rfl, A49, c49, tA49, tc49, rfl⟩
          rw [openS_neg (by rw [held_full hno hH]; decide), held_full hno hH]
          refine AWL.y rfl rfl (B rfl) (Yv.assign rfl (E rfl rfl)) ?_
          refine AWL.nil ?_
          refine AW.rseq ?_
          refine AWL.y rfl rfl (B rfl) (Yv.move rfl (E rfl rfl)) ?_
          refine AWL.y rfl rfl (B rfl) (Yv.move rfl (E rfl rfl)) ?_
          refine AWL.callAll rfl rfl (B rfl) rfl ce_18 (E rfl rfl) (evsC (E rfl rfl) (evsC (E rfl rfl) evs0)) (SysClose18 b m ws k 2 hk19 hH.wb) ?_
          rintro t52 S52 ⟨rfl, rfl⟩
          rw [if_neg (hH.busy k hk19), show closeF k ws.opn = ws.opn.set k ⟨0, [], 0⟩ from by unfold closeF; rw [if_neg (hH.busy k hk19)]]
          have hgk : (ws.opn.set k ⟨0, [], 0⟩).getD k default = ⟨0, [], 0⟩ := getD_set (by rw [hH.wb.opn]; exact hk19) _ _
          have hwk : WB 2 { ws with opn := ws.opn.set k ⟨0, [], 0⟩ } := wb_opn hH.wb k _ (Nat.zero_le _)
          refine AWL.y rfl rfl (B rfl) (Yv.assign rfl (E rfl rfl)) ?_
          refine AWL.nil ?_
          refine AW.rseq ?_
          refine AWL.y rfl rfl (B rfl) (Yv.move rfl (E rfl rfl)) ?_
          refine AWL.y rfl rfl (B rfl) (Yv.move rfl (E rfl rfl)) ?_
          refine AWL.callAll rfl rfl (B rfl) rfl ce_18 (E rfl rfl) (evsC (E rfl rfl) (evsC (E rfl rfl) evs0)) (SysClose18 b m { ws with opn := ws.opn.set k ⟨0, [], 0⟩ } k 2 hk19 hwk) ?_
          rintro t55 S55 ⟨rfl, rfl⟩
          rw [if_pos (show (({ ws with opn := ws.opn.set k ⟨0, [], 0⟩ } : WS).opn.getD k default).kind = 0 by show ((ws.opn.set k _).getD k default).kind = 0; rw [hgk])]
          refine AWL.eqS (S' := WSt b m { ws with opn := ws.opn.set k ⟨0, [], 0⟩ }) (by show WSt b m { ws with opn := closeF k (ws.opn.set k ⟨0, [], 0⟩) } = _; unfold closeF; rw [if_pos (by rw [hgk])]) ?_
          have hfx : freeIx (ws.opn.set k ⟨0, [], 0⟩) = k := freeIx_is (by rw [List.length_set, hH.wb.opn]; exact hk19) (by rw [hgk]) (fun i hi => by rw [getD_set_ne (by omega)]; exact hH.busy i (by omega))
          have hok2 : openR name 577 { ws with opn := ws.opn.set k ⟨0, [], 0⟩ } = (k : Int) := (openR_write hno.len hno.idx hno.ne (by rw [hfx]; exact hk19)).trans (by rw [hfx])
          refine AWL.y rfl rfl (B rfl) (Yv.assign rfl (E rfl rfl)) ?_
          refine AWL.nil ?_
          refine AW.rseq ?_
          refine AWL.y rfl rfl (B rfl) (Yv.move rfl (E rfl rfl)) ?_
          refine AWL.y rfl rfl (B rfl) (Yv.move rfl (E rfl rfl)) ?_
          refine AWL.callAll rfl rfl (B rfl) rfl ce_17 (E rfl rfl) (evsC (E rfl rfl) (evsC (E rfl rfl) (evsC (E rfl rfl) evs0))) (SysOpen17 b m { ws with opn := ws.opn.set k ⟨0, [], 0⟩ } name 577 2 hwk (by decide)) ?_
          rintro t58 S58 ⟨rfl, A58, c58, tA58, tc58, rfl⟩
          rw [openS_write (by rw [hok2]; omega), hok2]
          refine AWL.y rfl rfl (B rfl) (Yv.assign rfl (E rfl rfl)) ?_
          refine AWL.nil ?_
          have hHe : Held name 19 3 { { ws with opn := ws.opn.set k ⟨0, [], 0⟩ } with opn := (ws.opn.set k ⟨0, [], 0⟩).set (freeIx (ws.opn.set k ⟨0, [], 0⟩)) ⟨5, name, 0⟩, files := putF ⟨name, [], A58, c58⟩ ws.files, trace := ws.trace ++ [⟨3, name, []⟩], tA := tA58, tc := tc58 } := by
            refine ⟨wb_open hwk _ name A58 tA58 c58 tc58, fun i hi => ?_, fun i h1 h2 => absurd h1 (by omega), hasK_putF ⟨name, [], A58, c58⟩ ws.files⟩
            show (((ws.opn.set k _).set (freeIx _) _).getD i default).kind ≠ 0
            rw [hfx, List.set_set]
            by_cases hik : i = k
            · subst hik
              rw [getD_set (by rw [hH.wb.opn]; exact hk19)]
              show (5 : Int) ≠ 0
              decide
            · rw [getD_set_ne hik]
              exact hH.busy i hi
          refine AW.rseq ?_
          refine AWL.y rfl rfl (B rfl) (Yv.move rfl (E rfl rfl)) ?_
          refine AWL.y rfl rfl (B rfl) (Yv.eql rfl (E rfl rfl) (E rfl rfl)) ?_
          refine AWL.y rfl rfl (B rfl) (Yv.move rfl (E rfl rfl)) ?_
          refine AWL.ygT rfl rfl rfl rfl (B rfl) (Yv.move rfl (E rfl rfl)) ?_
          refine AWL.ygT rfl rfl rfl rfl (B rfl) (Yv.eql rfl (Eg rfl rfl id) (E rfl rfl)) ?_
          refine AWL.y rfl rfl (B rfl) (Yv.pickAnd rfl (E rfl rfl) (Eg rfl rfl id)) ?_
          refine AWL.y rfl rfl (B rfl) (Yv.move rfl (E rfl rfl)) ?_
          refine AWL.ygT rfl rfl rfl rfl (B rfl) (Yv.move rfl (E rfl rfl)) ?_
          refine AWL.ygT rfl rfl rfl rfl (B rfl) (Yv.eql rfl (Eg rfl rfl id) (E rfl rfl)) ?_
          refine AWL.y rfl rfl (B rfl) (Yv.pickAnd rfl (E rfl rfl) (Eg rfl rfl id)) ?_
          refine AWL.y rfl rfl (B rfl) (Yv.move rfl (E rfl rfl)) ?_
          refine AWL.ygT rfl rfl rfl rfl (B rfl) (Yv.move rfl (E rfl rfl)) ?_
          refine AWL.ygT rfl rfl rfl rfl (B rfl) (Yv.eql rfl (Eg rfl rfl id) (E rfl rfl)) ?_
          refine AWL.y rfl rfl (B rfl) (Yv.pickAnd rfl (E rfl rfl) (Eg rfl rfl id)) ?_
          refine AWL.y rfl rfl (B rfl) (Yv.move rfl (E rfl rfl)) ?_
          refine AWL.ygT rfl rfl rfl rfl (B rfl) (Yv.move rfl (E rfl rfl)) ?_
          refine AWL.ygT rfl rfl rfl rfl (B rfl) (Yv.move rfl (E rfl rfl)) ?_
          refine AWL.ygT rfl rfl rfl rfl (B rfl) (Yv.eql rfl (Eg rfl rfl id) (Eg rfl rfl id)) ?_
          refine AWL.y rfl rfl (B rfl) (Yv.pickAnd rfl (E rfl rfl) (Eg rfl rfl id)) ?_
          refine AWL.y rfl rfl (B rfl) (Yv.move rfl (E rfl rfl)) ?_
          refine AWL.unguard rfl rfl rfl (by simp) ?_
          refine AWL.y rfl rfl (B rfl) (Yv.move rfl (E rfl rfl)) ?_
          refine AWL.unguard rfl rfl rfl (by simp) ?_
          refine AWL.y rfl rfl (B rfl) (Yv.move rfl (E rfl rfl)) ?_
          refine AWL.unguard rfl rfl rfl (by simp) ?_
          refine AWL.callAll rfl rfl (B rfl) rfl ce_17 (E rfl rfl) (evsC (E rfl rfl) (evsC (E rfl rfl) (evsC (E rfl rfl) evs0))) (SysOpen17 b m _ name 0 3 hHe.wb (by decide)) ?_
          rintro t81 S81 ⟨rfl, A81, c81, tA81, tc81, rfl⟩
          rw [held_full hno hHe]
          refine AWL.unguard rfl rfl rfl (by simp) ?_
          refine AWL.y rfl rfl (B rfl) (Yv.eql rfl (E rfl rfl) (E rfl rfl)) ?_
          refine AWL.y rfl rfl (B rfl) (Yv.pickAnd rfl (E rfl rfl) (E rfl rfl)) ?_
          refine AWL.y rfl rfl (B rfl) (Yv.assign rfl (E rfl rfl)) ?_
          refine AWL.nil ?_
          refine AW.ret (retI (.tmp rfl .nil) ?_)
          simp [tupOf]

end Go.Proofs.Ytmiggpnkicdijaa
