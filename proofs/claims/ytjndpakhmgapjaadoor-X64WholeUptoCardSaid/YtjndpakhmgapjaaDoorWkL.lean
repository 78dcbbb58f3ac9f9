/-
  CONTRACTS of All, of List on any bytes, and of X64Whole; walked by program.
-/
import Derived.Test.YtjndpakhmgapjaaDoorWkK
import Derived.Test.YtjndpakhmgapjaaDoorWhole
import Derived.Test.YtjndpakhmgapjaaDoorRes
namespace Go.Proofs.YtjndpakhmgapjaaDoor
open Go Go.RowKit
set_option linter.unusedVariables false
set_option linter.unnecessarySimpa false
set_option linter.unusedSimpArgs false

theorem encode19_ (i : Ins) : ACalls Tryd.prog 11 [insT i] [] (fun t_ S => t_ = .tup [encT i, .v (.int .i64 (encE i))]) := by
  have h : (fun t_ S => t_ = if validF i = true then .tup [u8s (encF i), .v (.int .i64 0)] else .tup [ofConst (.slice none 0 0), .v (.int .i64 200)]) = (fun (t_ : T) (S : St) => t_ = .tup [encT i, .v (.int .i64 (encE i))]) := by
    funext t S
    unfold encT encE
    split <;> rfl
  rw [← h]
  exact encode19 i
set_option maxHeartbeats 1000000 in
theorem all20 (l : List Ins) (hl : l.length ≤ NL) :
    ACalls Tryd.prog 20 [inssT l] [] (fun t_ S => t_ = .tup [u8s (allB l), .v (.int .i64 (allE l))]) := by
  have hnl : l.length ≤ 1099511627 := hl
  refine ACalls.intro Tryd.func20 rfl Tryd.ntmps20 (Nat.le_of_ble_eq_true rfl) rfl fun X w0 => ?_
  refine AW.rseq ?_
  refine AWL.y rfl rfl (B rfl) (Yv.assign rfl (E rfl rfl)) ?_
  refine AWL.y rfl rfl (B rfl) (Yv.assign rfl (E rfl rfl)) ?_
  refine AWL.nil ?_
  refine AW.rseq ?_
  refine AWL.y rfl rfl (B rfl) (Yv.assign rfl (E rfl rfl)) ?_
  refine AWL.nil ?_
  refine AW.rowNil 5 1 ?_
  refine AW.seq ?_
  refine AW.rseq ?_
  refine AWL.y rfl rfl (B rfl) (Yv.move rfl (E rfl rfl)) ?_
  refine AWL.y rfl rfl (B rfl) (Yv.lenSl rfl so_36 (B rfl) (E rfl rfl) len_inss) ?_
  refine AWL.y rfl rfl (B rfl) (Yv.move rfl (E rfl rfl)) ?_
  refine AWL.nil ?_
  refine AW.block ?_
  refine AW.loop3 (fun (j : Nat) (Ao : Option Addr) (co : Nat) => [(0, true, inssT l), (4, true, .v (.slice Ao ((l.take j).flatMap encF).length co)), (9, true, inssT l), (10, true, .v (.int .i64 (l.length : Int))), (11, true, .v (.int .i64 (j : Int)))]) (fun (j : Nat) (Ao : Option Addr) (co : Nat) => [.row Ao ((l.take j).flatMap encF).length co 5 1 (((l.take j).flatMap encF).map u8)]) (fun (j : Nat) (Ao : Option Addr) (co : Nat) => j ≤ l.length ∧ ∀ i, i < j → validF (l.getD i default) = true) (fun (j : Nat) (Ao : Option Addr) (co : Nat) => l.length - j) 0 none 0 ?_ ?_ ?_ ?_
  · exact ⟨Nat.zero_le _, fun i hi => by omega⟩
  · exact (Sub.cons rfl rfl (Sub.cons rfl rfl (Sub.cons rfl rfl (Sub.cons rfl rfl (Sub.cons rfl rfl Sub.nil)))))
  · rfl
  ·
   intro j Ao co hinv
   obtain ⟨hj, hpre⟩ := hinv
   have hb1 := enc_le (l.take j)
   have hb2 := List.length_take_le j l
   have hb3 := encF_len (l.getD j default)
   refine AW.rseq ?_
   refine AWL.y rfl rfl (B rfl) (Yv.lss rfl (E rfl rfl) (E rfl rfl)) ?_
   refine AWL.nil ?_
   refine AW.seq ?_
   refine AW.cond rfl (fun h0t => ?_) (fun h0f => ?_)
   ·
    try replace h0t := of_decide_eq_true h0t
    refine AW.skip ?_
    refine AW.seq ?_
    refine AW.block ?_
    refine AW.rseq ?_
    refine AWL.y rfl rfl (B rfl) (Yv.indexSl rfl ss_36 (B rfl) (E rfl rfl) (E rfl rfl) (fun hg => ⟨rfl, (by first | omega | (simp only [len_inss, len_u8s, len_ints]; omega))⟩)) ?_
    refine AWL.y rfl rfl (B rfl) (Yv.loadRpA rfl ag_23 (E rfl rfl) (fun hg => ins_get (by omega))) ?_
    refine AWL.allocOp rfl rfl (B rfl) rfl zc_23 (fun b6 => ?_)
    refine AWL.storeBox (i := 1) rfl rfl rfl ag_23 rfl (E rfl rfl) (E rfl rfl) rfl rfl (Nat.le_of_ble_eq_true rfl) ?_
    refine AWL.nil ?_
    refine AW.rseq ?_
    refine AWL.y rfl rfl (B rfl) (Yv.loadBoxA rfl ag_23 (i := 1) rfl (E rfl rfl) rfl rfl) ?_
    refine AWL.callT rfl rfl (B rfl) rfl ce_11 (E rfl rfl) (evsC (E rfl rfl) evs0) (encode19_ (l.getD j default)) ?_
    rintro t17 S17 rfl
    refine AWL.y rfl rfl (B rfl) (Yv.move rfl (E rfl rfl)) ?_
    refine AWL.y rfl rfl (B rfl) (Yv.extract rfl (E rfl rfl) rfl) ?_
    refine AWL.y rfl rfl (B rfl) (Yv.extract rfl (E rfl rfl) rfl) ?_
    refine AWL.y rfl rfl (B rfl) (Yv.assign rfl (E rfl rfl)) ?_
    refine AWL.y rfl rfl (B rfl) (Yv.assign rfl (E rfl rfl)) ?_
    refine AWL.nil ?_
    refine AW.seq ?_
    refine AW.rseq ?_
    refine AWL.y rfl rfl (B rfl) (Yv.move rfl (E rfl rfl)) ?_
    refine AWL.y rfl rfl (B rfl) (Yv.neq rfl (E rfl rfl) (E rfl rfl)) ?_
    refine AWL.nil ?_
    refine AW.cond rfl (fun h1t => ?_) (fun h1f => ?_)
    ·
     try replace h1t := of_decide_eq_true h1t
     have hvj : ¬ validF (l.getD j default) = true := by rw [encE] at h1t; intro q; rw [if_pos q] at h1t; exact absurd h1t (by decide)
     refine AW.rseq ?_
     refine AWL.y rfl rfl (B rfl) (Yv.move rfl (E rfl rfl)) ?_
     refine AWL.y rfl rfl (B rfl) (Yv.assign rfl (E rfl rfl)) ?_
     refine AWL.y rfl rfl (B rfl) (Yv.assign rfl (E rfl rfl)) ?_
     refine AWL.nil ?_
     refine AW.retype (k := 2) (t' := u8s []) rfl (nil_sl (by decide)) ?_
     refine AW.ret (retI (.tmp rfl (.tmp rfl .nil)) ?_)
     rw [allB, allE, if_neg (all_bad (by omega) hvj), if_neg (all_bad (by omega) hvj), encE, if_neg hvj]
     rfl
    try replace h1f := of_decide_eq_false h1f
    have hvj : validF (l.getD j default) = true := by rw [encE] at h1f; by_cases q : validF (l.getD j default) = true; exact q; rw [if_neg q] at h1f; exact absurd h1f (by decide)
    refine AW.skip ?_
    rw [show encT (l.getD j default) = u8s (encF (l.getD j default)) from if_pos hvj]
    refine AW.region ?_
    refine AWL.y rfl rfl (B rfl) (Yv.move rfl (E rfl rfl)) ?_
    refine AWL.y rfl rfl (B rfl) (Yv.move rfl (E rfl rfl)) ?_
    refine AWL.appendRow (i := 0) rfl rfl (B rfl) rfl el_24 (B rfl) rfl (E rfl rfl) (SrcT.sl so_24 (B rfl) (E rfl rfl) len_u8s) (by unfold maxLen; omega) (by omega) (fun A25 c25 => ?_)
    refine AWL.y rfl rfl (B rfl) (Yv.assign rfl (E rfl rfl)) ?_
    refine AWL.nil ?_
    refine AW.dropAt 1 ?_
    refine AW.region ?_
    refine AWL.y rfl rfl (B rfl) (Yv.addN_i64 rfl (E rfl rfl) (E rfl rfl) (fun hg => by omega)) ?_
    refine AWL.y rfl rfl (B rfl) (Yv.move rfl (E rfl rfl)) ?_
    refine AWL.nil ?_
    obtain ⟨heL, heC⟩ := enc_step (l := l) (j := j) (by omega)
    refine ⟨j + 1, A25, c25, ⟨by omega, fun i hi => ?_⟩, by omega, Sub.cons rfl rfl (Sub.cons rfl (by rw [heL]) (Sub.cons rfl rfl (Sub.cons rfl rfl (Sub.cons rfl (by simp) Sub.nil)))), ?_⟩
    · rcases Nat.lt_or_ge i j with h | h
      · exact hpre i h
      · rw [show i = j by omega]; exact hvj
    rw [heL, heC]
    rfl
   try replace h0f := of_decide_eq_false h0f
   refine AW.exit ?_
   obtain rfl : j = l.length := by omega
   rw [List.take_length]
   refine AW.freeze 0 4 rfl (B rfl) rfl ?_
   refine AW.rseq ?_
   refine AWL.y rfl rfl (B rfl) (Yv.move rfl (E rfl rfl)) ?_
   refine AWL.y rfl rfl (B rfl) (Yv.assign rfl (E rfl rfl)) ?_
   refine AWL.y rfl rfl (B rfl) (Yv.assign rfl (E rfl rfl)) ?_
   refine AWL.nil ?_
   refine AW.ret (retI (.tmp rfl (.tmp rfl .nil)) ?_)
   rw [allB, allE, if_pos (all_good (fun i hi => hpre i (by omega))), if_pos (all_good (fun i hi => hpre i (by omega)))]
   rfl

set_option maxHeartbeats 1000000 in
theorem list22 (bs : List UInt8) (hl : bs.length ≤ 1099511627) :
    ACalls Tryd.prog 22 [u8s bs] [] (fun t_ S => t_ = .tup [inssT (lst bs).1, .v (.int .i64 (lst bs).2)]) := by
  refine ACalls.intro Tryd.func22 rfl Tryd.ntmps22 (Nat.le_of_ble_eq_true rfl) rfl fun X w0 => ?_
  refine AW.rseq ?_
  refine AWL.y rfl rfl (B rfl) (Yv.assign rfl (E rfl rfl)) ?_
  refine AWL.y rfl rfl (B rfl) (Yv.assign rfl (E rfl rfl)) ?_
  refine AWL.nil ?_
  refine AW.rseq ?_
  refine AWL.y rfl rfl (B rfl) (Yv.assign rfl (E rfl rfl)) ?_
  refine AWL.nil ?_
  refine AW.rowNil 23 6 ?_
  refine AW.seq ?_
  refine AW.block ?_
  refine AW.loop4 (fun (out : List Ins) (rest : List UInt8) (Ao : Option Addr) (co : Nat) => [(0, true, u8s rest), (4, true, .v (.slice Ao out.length co))]) (fun (out : List Ins) (rest : List UInt8) (Ao : Option Addr) (co : Nat) => [.row Ao out.length co 23 6 (out.flatMap insCells)]) (fun (out : List Ins) (rest : List UInt8) (Ao : Option Addr) (co : Nat) => LI bs out rest) (fun (out : List Ins) (rest : List UInt8) (Ao : Option Addr) (co : Nat) => rest.length) ([]) bs none 0 ?_ ?_ ?_ ?_
  · exact LI.start bs (lst_or bs)
  · exact (Sub.cons rfl rfl (Sub.cons rfl rfl Sub.nil))
  · rfl
  ·
   intro out rest Ao co hinv
   have hli := hinv
   refine AW.seq ?_
   refine AW.rseq ?_
   refine AWL.y rfl rfl (B rfl) (Yv.move rfl (E rfl rfl)) ?_
   refine AWL.y rfl rfl (B rfl) (Yv.lenSl rfl so_24 (B rfl) (E rfl rfl) len_u8s) ?_
   refine AWL.y rfl rfl (B rfl) (Yv.gtr rfl (E rfl rfl) (E rfl rfl)) ?_
   refine AWL.nil ?_
   refine AW.cond rfl (fun h0t => ?_) (fun h0f => ?_)
   ·
    try replace h0t := of_decide_eq_true h0t
    have hr : 0 < rest.length := by simpa using h0t
    refine AW.skip ?_
    refine AW.block ?_
    refine AW.rseq ?_
    refine AWL.y rfl rfl (B rfl) (Yv.move rfl (E rfl rfl)) ?_
    refine AWL.callT rfl rfl (B rfl) rfl ce_17 (E rfl rfl) (evsC (E rfl rfl) evs0) (Decode42 rest (by have := hli.2; omega)) ?_
    rintro t13 S13 rfl
    refine AWL.y rfl rfl (B rfl) (Yv.move rfl (E rfl rfl)) ?_
    refine AWL.y rfl rfl (B rfl) (Yv.extract rfl (E rfl rfl) rfl) ?_
    refine AWL.y rfl rfl (B rfl) (Yv.extract rfl (E rfl rfl) rfl) ?_
    refine AWL.y rfl rfl (B rfl) (Yv.extract rfl (E rfl rfl) rfl) ?_
    refine AWL.allocOp rfl rfl (B rfl) rfl zc_23 (fun b5 => ?_)
    refine AWL.storeBox (i := 1) rfl rfl rfl ag_23 rfl (E rfl rfl) (E rfl rfl) rfl rfl (Nat.le_of_ble_eq_true rfl) ?_
    refine AWL.y rfl rfl (B rfl) (Yv.assign rfl (E rfl rfl)) ?_
    refine AWL.y rfl rfl (B rfl) (Yv.assign rfl (E rfl rfl)) ?_
    refine AWL.nil ?_
    refine AW.seq ?_
    refine AW.rseq ?_
    refine AWL.y rfl rfl (B rfl) (Yv.move rfl (E rfl rfl)) ?_
    refine AWL.y rfl rfl (B rfl) (Yv.neq rfl (E rfl rfl) (E rfl rfl)) ?_
    refine AWL.nil ?_
    refine AW.cond rfl (fun h1t => ?_) (fun h1f => ?_)
    ·
     try replace h1t := of_decide_eq_true h1t
     have hne : ¬ decE rest = 0 := by simpa using h1t
     have hbd := hli.bad hr hne
     refine AW.rseq ?_
     refine AWL.y rfl rfl (B rfl) (Yv.move rfl (E rfl rfl)) ?_
     refine AWL.y rfl rfl (B rfl) (Yv.assign rfl (E rfl rfl)) ?_
     refine AWL.y rfl rfl (B rfl) (Yv.assign rfl (E rfl rfl)) ?_
     refine AWL.nil ?_
     refine AW.retype (k := 2) (t' := inssT []) rfl (nil_sl (by decide)) ?_
     refine AW.ret (retI (.tmp rfl (.tmp rfl .nil)) ?_)
     rw [hbd]
     rfl
    try replace h1f := of_decide_eq_false h1f
    have hde : decE rest = 0 := by simpa using h1f
    have hp := decN_pos hde
    obtain ⟨_, _, _, _, hle⟩ := reads hde
    have hst := hli.step hr hde
    have hli2 := hli.2
    refine AW.skip ?_
    refine AW.rseq ?_
    refine AWL.y rfl rfl (B rfl) (Yv.move rfl (E rfl rfl)) ?_
    refine AWL.y rfl rfl (B rfl) (Yv.loadBoxA rfl ag_23 (i := 1) rfl (E rfl rfl) rfl rfl) ?_
    refine AWL.buildSliceE rfl rfl (B rfl) rfl el_36 (B rfl) rfl (evsC (E rfl rfl) evs0) (Nat.le_of_ble_eq_true rfl) rfl rfl ?_
    refine AWL.appendRow (i := 0) rfl rfl (B rfl) rfl el_36 (B rfl) rfl (E rfl rfl) (SrcT.sl so_36 (B rfl) (E rfl rfl) rfl) (by unfold maxLen; omega) (by omega) (fun A23 c23 => ?_)
    refine AWL.y rfl rfl (B rfl) (Yv.assign rfl (E rfl rfl)) ?_
    refine AWL.nil ?_
    refine AW.dropAt 1 ?_
    refine AW.region ?_
    refine AWL.y rfl rfl (B rfl) (Yv.move rfl (E rfl rfl)) ?_
    refine AWL.y rfl rfl (B rfl) (Yv.move rfl (E rfl rfl)) ?_
    refine AWL.y rfl rfl (B rfl) (Yv.sliceMap rfl ss_24 (E rfl rfl) (Bound.some_ (E rfl rfl) (fun hg => rfl)) Bound.none_ (fun hg => ⟨by omega, by omega⟩)) ?_
    refine AWL.y rfl rfl (B rfl) (Yv.assign rfl (E rfl rfl)) ?_
    refine AWL.nil ?_
    refine ⟨out ++ [decI rest], rest.drop (decN rest), A23, c23, hst, by rw [List.length_drop]; omega, Sub.cons rfl (by rw [take_rest]; rfl) (Sub.cons rfl (by rw [List.length_append]; rfl) Sub.nil), ?_⟩
    rw [List.flatMap_append, List.length_append]
    simp
    rfl
   try replace h0f := of_decide_eq_false h0f
   have hr : ¬ 0 < rest.length := by simpa using h0f
   refine AW.exit ?_
   have hdn := hli.done (by omega)
   refine AW.freeze 0 4 rfl (B rfl) rfl ?_
   refine AW.rseq ?_
   refine AWL.y rfl rfl (B rfl) (Yv.move rfl (E rfl rfl)) ?_
   refine AWL.y rfl rfl (B rfl) (Yv.assign rfl (E rfl rfl)) ?_
   refine AWL.y rfl rfl (B rfl) (Yv.assign rfl (E rfl rfl)) ?_
   refine AWL.nil ?_
   refine AW.ret (retI (.tmp rfl (.tmp rfl .nil)) ?_)
   rw [hdn]
   rfl

set_option maxHeartbeats 1000000 in
theorem X64Whole9T (l : List Ins) (hl : l.length ≤ NL) (bs : List UInt8) (hln : 11 * l.length ≤ NL ∧ bs.length ≤ NL) (hg : Good l) :
    ACalls Tryd.prog 9 [inssT l, u8s bs] [] fun t_ S => t_ = .v (.bool true) := by
  have hab := all_bound l
  unfold NL at hln
  have hnb : bs.length ≤ 1099511627 := by omega
  obtain ⟨ha1, ha2⟩ := good_all hg
  refine ACalls.intro Tryd.func9 rfl Tryd.ntmps9 (Nat.le_of_ble_eq_true rfl) rfl fun X w0 => ?_
  refine AW.rseq ?_
  refine AWL.y rfl rfl (B rfl) (Yv.assign rfl (E rfl rfl)) ?_
  refine AWL.nil ?_
  refine AW.rseq ?_
  refine AWL.y rfl rfl (B rfl) (Yv.move rfl (E rfl rfl)) ?_
  refine AWL.callT rfl rfl (B rfl) rfl ce_20 (E rfl rfl) (evsC (E rfl rfl) evs0) (all20 l hl) ?_
  rintro t16 S16 rfl
  rw [ha1, ha2]
  refine AWL.y rfl rfl (B rfl) (Yv.move rfl (E rfl rfl)) ?_
  refine AWL.y rfl rfl (B rfl) (Yv.extract rfl (E rfl rfl) rfl) ?_
  refine AWL.y rfl rfl (B rfl) (Yv.extract rfl (E rfl rfl) rfl) ?_
  refine AWL.y rfl rfl (B rfl) (Yv.assign rfl (E rfl rfl)) ?_
  refine AWL.y rfl rfl (B rfl) (Yv.assign rfl (E rfl rfl)) ?_
  refine AWL.nil ?_
  refine AW.seq ?_
  refine AW.rseq ?_
  refine AWL.y rfl rfl (B rfl) (Yv.move rfl (E rfl rfl)) ?_
  refine AWL.y rfl rfl (B rfl) (Yv.eql rfl (E rfl rfl) (E rfl rfl)) ?_
  refine AWL.nil ?_
  refine AW.cond rfl (fun h0t => ?_) (fun h0f => ?_)
  ·
   try replace h0t := of_decide_eq_true h0t
   refine AW.rseq ?_
   refine AWL.y rfl rfl (B rfl) (Yv.move rfl (E rfl rfl)) ?_
   refine AWL.callT rfl rfl (B rfl) rfl ce_22 (E rfl rfl) (evsC (E rfl rfl) evs0) (list22 (l.flatMap encF) (by rw [← ha1]; omega)) ?_
   rintro t23 S23 rfl
   rw [lst_enc l hg]
   refine AWL.y rfl rfl (B rfl) (Yv.move rfl (E rfl rfl)) ?_
   refine AWL.y rfl rfl (B rfl) (Yv.extract rfl (E rfl rfl) rfl) ?_
   refine AWL.y rfl rfl (B rfl) (Yv.extract rfl (E rfl rfl) rfl) ?_
   refine AWL.y rfl rfl (B rfl) (Yv.assign rfl (E rfl rfl)) ?_
   refine AWL.y rfl rfl (B rfl) (Yv.assign rfl (E rfl rfl)) ?_
   refine AWL.nil ?_
   refine AW.seq ?_
   refine AW.rseq ?_
   refine AWL.y rfl rfl (B rfl) (Yv.move rfl (E rfl rfl)) ?_
   refine AWL.y rfl rfl (B rfl) (Yv.neq rfl (E rfl rfl) (E rfl rfl)) ?_
   refine AWL.y rfl rfl (B rfl) (Yv.move rfl (E rfl rfl)) ?_
   refine AWL.ygF rfl rfl rfl rfl (B rfl) (Yv.move rfl (E rfl rfl)) ?_
   refine AWL.ygF rfl rfl rfl rfl (B rfl) (Yv.lenSl rfl so_36 (B rfl) (Eg rfl rfl id) len_inss) ?_
   refine AWL.ygF rfl rfl rfl rfl (B rfl) (Yv.move rfl (E rfl rfl)) ?_
   refine AWL.ygF rfl rfl rfl rfl (B rfl) (Yv.lenSl rfl so_36 (B rfl) (Eg rfl rfl id) len_inss) ?_
   refine AWL.ygF rfl rfl rfl rfl (B rfl) (Yv.neq rfl (Eg rfl rfl id) (Eg rfl rfl id)) ?_
   refine AWL.y rfl rfl (B rfl) (Yv.pickOr (t := .const (.bool true)) rfl (E rfl rfl) (Eg rfl rfl id)) ?_
   refine AWL.nil ?_
   refine AW.cond rfl (fun h1t => ?_) (fun h1f => ?_)
   ·
    try replace h1t := of_decide_eq_true h1t
    simp only [Bool.or_eq_true, Bool.and_eq_true, Bool.or_eq_false_iff, Bool.and_eq_false_iff, Bool.not_eq_true', Bool.not_eq_false', decide_eq_true_eq, decide_eq_false_iff_not, Decidable.not_not, ne_eq, not_true, Bool.true_eq_false, false_or, or_false] at h1t
    try omega
   try replace h1f := of_decide_eq_false h1f
   refine AW.skip ?_
   refine AW.rseq ?_
   refine AWL.y rfl rfl (B rfl) (Yv.assign rfl (E rfl rfl)) ?_
   refine AWL.nil ?_
   refine AW.block ?_
   refine AW.loop (fun (k : Nat) => [(0, true, inssT l), (1, true, u8s bs), (7, true, inssT l), (9, true, .v (.int .i64 (k : Int)))]) (fun (k : Nat) => []) (fun (k : Nat) => k ≤ l.length) (fun (k : Nat) => l.length - k) 0 ?_ ?_ ?_ ?_
   · exact Nat.zero_le _
   · exact (Sub.cons rfl rfl (Sub.cons rfl rfl (Sub.cons rfl rfl (Sub.cons rfl rfl Sub.nil))))
   · rfl
   ·
    intro k hinv
    refine AW.seq ?_
    refine AW.rseq ?_
    refine AWL.y rfl rfl (B rfl) (Yv.move rfl (E rfl rfl)) ?_
    refine AWL.y rfl rfl (B rfl) (Yv.move rfl (E rfl rfl)) ?_
    refine AWL.y rfl rfl (B rfl) (Yv.lenSl rfl so_36 (B rfl) (E rfl rfl) len_inss) ?_
    refine AWL.y rfl rfl (B rfl) (Yv.lss rfl (E rfl rfl) (E rfl rfl)) ?_
    refine AWL.nil ?_
    refine AW.cond rfl (fun h2t => ?_) (fun h2f => ?_)
    ·
     try replace h2t := of_decide_eq_true h2t
     refine AW.skip ?_
     refine AW.seq ?_
     refine AW.block ?_
     refine AW.rseqQ rfl (by kernel_rfl) ?_
     refine AWQ.y rfl rfl (B rfl) (Yv.move rfl (E rfl rfl)) ?_
     refine AWQ.y rfl rfl (B rfl) (Yv.move rfl (E rfl rfl)) ?_
     refine AWQ.y rfl rfl (B rfl) (Yv.indexSl rfl ss_36 (B rfl) (E rfl rfl) (E rfl rfl) (fun hg => ⟨rfl, (by first | omega | (simp only [len_inss, len_u8s, len_ints]; omega))⟩)) ?_
     refine AWQ.y rfl rfl (B rfl) (Yv.loadRpA rfl ag_23 (E rfl rfl) (fun hg => ins_get (by omega))) ?_
     refine AWQ.y rfl rfl (B rfl) (Yv.move rfl (E rfl rfl)) ?_
     refine AWQ.y rfl rfl (B rfl) (Yv.move rfl (E rfl rfl)) ?_
     refine AWQ.y rfl rfl (B rfl) (Yv.indexSl rfl ss_36 (B rfl) (E rfl rfl) (E rfl rfl) (fun hg => ⟨rfl, (by first | omega | (simp only [len_inss, len_u8s, len_ints]; omega))⟩)) ?_
     refine AWQ.y rfl rfl (B rfl) (Yv.loadRpA rfl ag_23 (E rfl rfl) (fun hg => ins_get (by omega))) ?_
     refine AWQ.y rfl rfl (B rfl) (Yv.neqA (us := insVals (l.getD k default)) (vs := insVals (l.getD k default)) rfl fl_23 (E rfl rfl) (E rfl rfl) rfl rfl (ins_eq (l.getD k default) (l.getD k default))) ?_
     refine AWQ.nil ?_
     refine AW.cond rfl (fun h3t => ?_) (fun h3f => ?_)
     ·
      try replace h3t := of_decide_eq_true h3t
      exact absurd h3t (by simp)
     try replace h3f := of_decide_eq_false h3f
     refine AW.skip ?_
     refine AW.region ?_
     refine AWL.y rfl rfl (B rfl) (Yv.move rfl (E rfl rfl)) ?_
     refine AWL.y rfl rfl (B rfl) (Yv.addN_i64 rfl (E rfl rfl) (E rfl rfl) (fun hg => by omega)) ?_
     refine AWL.y rfl rfl (B rfl) (Yv.assign rfl (E rfl rfl)) ?_
     refine AWL.nil ?_
     refine ⟨k + 1, by omega, by omega, Sub.cons rfl rfl (Sub.cons rfl rfl (Sub.cons rfl rfl (Sub.cons rfl (by simp) Sub.nil))), rfl⟩
    try replace h2f := of_decide_eq_false h2f
    refine AW.exit ?_
    refine AW.rseq ?_
    refine AWL.y rfl rfl (B rfl) (Yv.move rfl (E rfl rfl)) ?_
    refine AWL.callT rfl rfl (B rfl) rfl ce_22 (E rfl rfl) (evsC (E rfl rfl) evs0) (list22 bs hnb) ?_
    rintro t52 S52 rfl
    refine AWL.y rfl rfl (B rfl) (Yv.move rfl (E rfl rfl)) ?_
    refine AWL.y rfl rfl (B rfl) (Yv.extract rfl (E rfl rfl) rfl) ?_
    refine AWL.y rfl rfl (B rfl) (Yv.extract rfl (E rfl rfl) rfl) ?_
    refine AWL.y rfl rfl (B rfl) (Yv.assign rfl (E rfl rfl)) ?_
    refine AWL.y rfl rfl (B rfl) (Yv.assign rfl (E rfl rfl)) ?_
    refine AWL.nil ?_
    refine AW.seq ?_
    refine AW.rseq ?_
    refine AWL.y rfl rfl (B rfl) (Yv.move rfl (E rfl rfl)) ?_
    refine AWL.y rfl rfl (B rfl) (Yv.eql rfl (E rfl rfl) (E rfl rfl)) ?_
    refine AWL.nil ?_
    refine AW.cond rfl (fun h4t => ?_) (fun h4f => ?_)
    ·
     try replace h4t := of_decide_eq_true h4t
     have hz : (lst bs).2 = 0 := by simpa using h4t
     obtain ⟨hg2, hl2, hll⟩ := lst_back hz
     obtain ⟨hb1, hb2⟩ := good_all hg2
     refine AW.rseq ?_
     refine AWL.y rfl rfl (B rfl) (Yv.move rfl (E rfl rfl)) ?_
     refine AWL.callT rfl rfl (B rfl) rfl ce_20 (E rfl rfl) (evsC (E rfl rfl) evs0) (all20 (lst bs).1 (by unfold NL; omega)) ?_
     rintro t59 S59 rfl
     rw [hb1, hb2, hl2]
     refine AWL.y rfl rfl (B rfl) (Yv.move rfl (E rfl rfl)) ?_
     refine AWL.y rfl rfl (B rfl) (Yv.extract rfl (E rfl rfl) rfl) ?_
     refine AWL.y rfl rfl (B rfl) (Yv.extract rfl (E rfl rfl) rfl) ?_
     refine AWL.y rfl rfl (B rfl) (Yv.assign rfl (E rfl rfl)) ?_
     refine AWL.y rfl rfl (B rfl) (Yv.assign rfl (E rfl rfl)) ?_
     refine AWL.nil ?_
     refine AW.rseq ?_
     refine AWL.y rfl rfl (B rfl) (Yv.move rfl (E rfl rfl)) ?_
     refine AWL.y rfl rfl (B rfl) (Yv.eql rfl (E rfl rfl) (E rfl rfl)) ?_
     refine AWL.y rfl rfl (B rfl) (Yv.move rfl (E rfl rfl)) ?_
     refine AWL.ygT rfl rfl rfl rfl (B rfl) (Yv.move rfl (E rfl rfl)) ?_
     refine AWL.ygT rfl rfl rfl rfl (B rfl) (Yv.bytesStr rfl by_24 st_9 (Eg rfl rfl id)) ?_
     refine AWL.ygT rfl rfl rfl rfl (B rfl) (Yv.move rfl (E rfl rfl)) ?_
     refine AWL.ygT rfl rfl rfl rfl (B rfl) (Yv.bytesStr rfl by_24 st_9 (Eg rfl rfl id)) ?_
     refine AWL.ygT rfl rfl rfl rfl (B rfl) (Yv.eqlL rfl (Eg rfl rfl id) (Eg rfl rfl id)) ?_
     refine AWL.y rfl rfl (B rfl) (Yv.pickAnd rfl (E rfl rfl) (Eg rfl rfl id)) ?_
     refine AWL.y rfl rfl (B rfl) (Yv.move rfl (E rfl rfl)) ?_
     refine AWL.callPgT rfl rfl rfl rfl (B rfl) rfl ce_16 (E rfl rfl) evs0 (fun hg => known16) (fun t S h => h) ?_
     refine AWL.y rfl rfl (B rfl) (Yv.pickAnd rfl (E rfl rfl) (Eg rfl rfl id)) ?_
     refine AWL.y rfl rfl (B rfl) (Yv.assign rfl (E rfl rfl)) ?_
     refine AWL.nil ?_
     refine AW.ret (retI (.tmp rfl .nil) ?_)
     show T.v (.bool _) = T.v (.bool true)
     simp
    try replace h4f := of_decide_eq_false h4f
    have hz : ¬ (lst bs).2 = 0 := by simpa using h4f
    have hnl := (lst_or bs).resolve_left hz
    refine AW.skip ?_
    refine AW.rseq ?_
    refine AWL.y rfl rfl (B rfl) (Yv.move rfl (E rfl rfl)) ?_
    refine AWL.y rfl rfl (B rfl) (Yv.lenSl rfl so_36 (B rfl) (E rfl rfl) len_inss) ?_
    refine AWL.y rfl rfl (B rfl) (Yv.eql rfl (E rfl rfl) (E rfl rfl)) ?_
    refine AWL.y rfl rfl (B rfl) (Yv.move rfl (E rfl rfl)) ?_
    refine AWL.callPgT rfl rfl rfl rfl (B rfl) rfl ce_16 (E rfl rfl) evs0 (fun hg => known16) (fun t S h => h) ?_
    refine AWL.y rfl rfl (B rfl) (Yv.pickAnd rfl (E rfl rfl) (Eg rfl rfl id)) ?_
    refine AWL.y rfl rfl (B rfl) (Yv.assign rfl (E rfl rfl)) ?_
    refine AWL.nil ?_
    refine AW.ret (retI (.tmp rfl .nil) ?_)
    show T.v (.bool _) = T.v (.bool true)
    rw [hnl]
    rfl
  try replace h0f := of_decide_eq_false h0f
  exact absurd rfl h0f

set_option maxHeartbeats 1000000 in
theorem X64Whole9F (l : List Ins) (hl : l.length ≤ NL) (bs : List UInt8) (hln : 11 * l.length ≤ NL ∧ bs.length ≤ NL) (hg : ¬ allE l = 0) :
    ACalls Tryd.prog 9 [inssT l, u8s bs] [] fun t_ S => t_ = .v (.bool true) := by
  have hab := all_bound l
  unfold NL at hln
  have hnb : bs.length ≤ 1099511627 := by omega
  refine ACalls.intro Tryd.func9 rfl Tryd.ntmps9 (Nat.le_of_ble_eq_true rfl) rfl fun X w0 => ?_
  refine AW.rseq ?_
  refine AWL.y rfl rfl (B rfl) (Yv.assign rfl (E rfl rfl)) ?_
  refine AWL.nil ?_
  refine AW.rseq ?_
  refine AWL.y rfl rfl (B rfl) (Yv.move rfl (E rfl rfl)) ?_
  refine AWL.callT rfl rfl (B rfl) rfl ce_20 (E rfl rfl) (evsC (E rfl rfl) evs0) (all20 l hl) ?_
  rintro t16 S16 rfl
  refine AWL.y rfl rfl (B rfl) (Yv.move rfl (E rfl rfl)) ?_
  refine AWL.y rfl rfl (B rfl) (Yv.extract rfl (E rfl rfl) rfl) ?_
  refine AWL.y rfl rfl (B rfl) (Yv.extract rfl (E rfl rfl) rfl) ?_
  refine AWL.y rfl rfl (B rfl) (Yv.assign rfl (E rfl rfl)) ?_
  refine AWL.y rfl rfl (B rfl) (Yv.assign rfl (E rfl rfl)) ?_
  refine AWL.nil ?_
  refine AW.seq ?_
  refine AW.rseq ?_
  refine AWL.y rfl rfl (B rfl) (Yv.move rfl (E rfl rfl)) ?_
  refine AWL.y rfl rfl (B rfl) (Yv.eql rfl (E rfl rfl) (E rfl rfl)) ?_
  refine AWL.nil ?_
  refine AW.cond rfl (fun h0t => ?_) (fun h0f => ?_)
  ·
   try replace h0t := of_decide_eq_true h0t
   exact absurd (by simpa using h0t) hg
  try replace h0f := of_decide_eq_false h0f
  refine AW.skip ?_
  refine AW.rseq ?_
  refine AWL.y rfl rfl (B rfl) (Yv.move rfl (E rfl rfl)) ?_
  refine AWL.callT rfl rfl (B rfl) rfl ce_22 (E rfl rfl) (evsC (E rfl rfl) evs0) (list22 bs hnb) ?_
  rintro t52 S52 rfl
  refine AWL.y rfl rfl (B rfl) (Yv.move rfl (E rfl rfl)) ?_
  refine AWL.y rfl rfl (B rfl) (Yv.extract rfl (E rfl rfl) rfl) ?_
  refine AWL.y rfl rfl (B rfl) (Yv.extract rfl (E rfl rfl) rfl) ?_
  refine AWL.y rfl rfl (B rfl) (Yv.assign rfl (E rfl rfl)) ?_
  refine AWL.y rfl rfl (B rfl) (Yv.assign rfl (E rfl rfl)) ?_
  refine AWL.nil ?_
  refine AW.seq ?_
  refine AW.rseq ?_
  refine AWL.y rfl rfl (B rfl) (Yv.move rfl (E rfl rfl)) ?_
  refine AWL.y rfl rfl (B rfl) (Yv.eql rfl (E rfl rfl) (E rfl rfl)) ?_
  refine AWL.nil ?_
  refine AW.cond rfl (fun h1t => ?_) (fun h1f => ?_)
  ·
   try replace h1t := of_decide_eq_true h1t
   have hz : (lst bs).2 = 0 := by simpa using h1t
   obtain ⟨hg2, hl2, hll⟩ := lst_back hz
   obtain ⟨hb1, hb2⟩ := good_all hg2
   refine AW.rseq ?_
   refine AWL.y rfl rfl (B rfl) (Yv.move rfl (E rfl rfl)) ?_
   refine AWL.callT rfl rfl (B rfl) rfl ce_20 (E rfl rfl) (evsC (E rfl rfl) evs0) (all20 (lst bs).1 (by unfold NL; omega)) ?_
   rintro t59 S59 rfl
   rw [hb1, hb2, hl2]
   refine AWL.y rfl rfl (B rfl) (Yv.move rfl (E rfl rfl)) ?_
   refine AWL.y rfl rfl (B rfl) (Yv.extract rfl (E rfl rfl) rfl) ?_
   refine AWL.y rfl rfl (B rfl) (Yv.extract rfl (E rfl rfl) rfl) ?_
   refine AWL.y rfl rfl (B rfl) (Yv.assign rfl (E rfl rfl)) ?_
   refine AWL.y rfl rfl (B rfl) (Yv.assign rfl (E rfl rfl)) ?_
   refine AWL.nil ?_
   refine AW.rseq ?_
   refine AWL.y rfl rfl (B rfl) (Yv.move rfl (E rfl rfl)) ?_
   refine AWL.y rfl rfl (B rfl) (Yv.eql rfl (E rfl rfl) (E rfl rfl)) ?_
   refine AWL.y rfl rfl (B rfl) (Yv.move rfl (E rfl rfl)) ?_
   refine AWL.ygT rfl rfl rfl rfl (B rfl) (Yv.move rfl (E rfl rfl)) ?_
   refine AWL.ygT rfl rfl rfl rfl (B rfl) (Yv.bytesStr rfl by_24 st_9 (Eg rfl rfl id)) ?_
   refine AWL.ygT rfl rfl rfl rfl (B rfl) (Yv.move rfl (E rfl rfl)) ?_
   refine AWL.ygT rfl rfl rfl rfl (B rfl) (Yv.bytesStr rfl by_24 st_9 (Eg rfl rfl id)) ?_
   refine AWL.ygT rfl rfl rfl rfl (B rfl) (Yv.eqlL rfl (Eg rfl rfl id) (Eg rfl rfl id)) ?_
   refine AWL.y rfl rfl (B rfl) (Yv.pickAnd rfl (E rfl rfl) (Eg rfl rfl id)) ?_
   refine AWL.y rfl rfl (B rfl) (Yv.move rfl (E rfl rfl)) ?_
   refine AWL.callPgT rfl rfl rfl rfl (B rfl) rfl ce_16 (E rfl rfl) evs0 (fun hg => known16) (fun t S h => h) ?_
   refine AWL.y rfl rfl (B rfl) (Yv.pickAnd rfl (E rfl rfl) (Eg rfl rfl id)) ?_
   refine AWL.y rfl rfl (B rfl) (Yv.assign rfl (E rfl rfl)) ?_
   refine AWL.nil ?_
   refine AW.ret (retI (.tmp rfl .nil) ?_)
   show T.v (.bool _) = T.v (.bool true)
   simp
  try replace h1f := of_decide_eq_false h1f
  have hz : ¬ (lst bs).2 = 0 := by simpa using h1f
  have hnl := (lst_or bs).resolve_left hz
  refine AW.skip ?_
  refine AW.rseq ?_
  refine AWL.y rfl rfl (B rfl) (Yv.move rfl (E rfl rfl)) ?_
  refine AWL.y rfl rfl (B rfl) (Yv.lenSl rfl so_36 (B rfl) (E rfl rfl) len_inss) ?_
  refine AWL.y rfl rfl (B rfl) (Yv.eql rfl (E rfl rfl) (E rfl rfl)) ?_
  refine AWL.y rfl rfl (B rfl) (Yv.move rfl (E rfl rfl)) ?_
  refine AWL.callPgT rfl rfl rfl rfl (B rfl) rfl ce_16 (E rfl rfl) evs0 (fun hg => known16) (fun t S h => h) ?_
  refine AWL.y rfl rfl (B rfl) (Yv.pickAnd rfl (E rfl rfl) (Eg rfl rfl id)) ?_
  refine AWL.y rfl rfl (B rfl) (Yv.assign rfl (E rfl rfl)) ?_
  refine AWL.nil ?_
  refine AW.ret (retI (.tmp rfl .nil) ?_)
  show T.v (.bool _) = T.v (.bool true)
  rw [hnl]
  rfl

end Go.Proofs.YtjndpakhmgapjaaDoor
