/-
  CONTRACTS of texts of any number and of X64Apart; walked by program.
-/
import Derived.Test.YtjndpakhmgapjaaDoorWkK
import Derived.Test.YtjndpakhmgapjaaDoorNum
import Derived.Test.YtjndpakhmgapjaaDoorTab
import Derived.Test.YtjndpakhmgapjaaDoorRes
namespace Go.Proofs.YtjndpakhmgapjaaDoor
open Go Go.RowKit
set_option linter.unusedVariables false
set_option linter.unnecessarySimpa false
set_option linter.unusedSimpArgs false

set_option maxHeartbeats 400000 in
theorem put40G (has n f : Int) (s : List UInt8) (b3 b5 : Nat) (hn : I64 n) (hl : s.length ≤ 1000) :
    ACallsG Tryd.prog tabG 40 [.v (.int .i64 has), .v (.int .i64 n), .v (.pointer (some ⟨b3, 0, none⟩)), .v (.pointer (some ⟨b5, 0, none⟩))] [.box b3 3 [.v (.int .i64 f)], .box b5 9 [sv s]] (fun t_ S => S = [.box b3 3 [.v (.int .i64 f)], .box b5 9 [sv (putG f has n s)]]) := by
  refine ACallsG.intro Tryd.func40 rfl Tryd.ntmps40 (Nat.le_of_ble_eq_true rfl) rfl fun X w0 hG => ?_
  refine AW.rseq ?_
  refine AWL.y rfl rfl (B rfl) (Yv.loadBox rfl ag_3 (i := 0) rfl (E rfl rfl) rfl) ?_
  refine AWL.y rfl rfl (B rfl) (Yv.move rfl (E rfl rfl)) ?_
  refine AWL.y rfl rfl (B rfl) (Yv.bits rfl rfl (E rfl rfl) (E rfl rfl)) ?_
  refine AWL.y rfl rfl (B rfl) (Yv.neq rfl (E rfl rfl) (E rfl rfl)) ?_
  refine AWL.nil ?_
  refine AW.cond rfl (fun h0t => ?_) (fun h0f => ?_)
  ·
   try replace h0t := of_decide_eq_true h0t
   have hsl := Lib.itoa_length_le n hn.1 hn.2
   refine AW.regionP rfl ?_
   refine AWP.take (i := 1) rfl (by kernel_rfl) (by kernel_rfl) (by kernel_rfl) rfl rfl (B rfl) (freeMove rfl (E rfl rfl)) ?_
   refine AWP.two (i := 0) (j := 2) (by kernel_rfl) rfl rfl ?_ ?_
   ·
    refine AWL.y rfl rfl (B rfl) (Yv.loadBox rfl ag_9 (i := 1) rfl (E rfl rfl) rfl) ?_
    refine AWL.nil ?_
    refine AWP.one (i := 2) (by kernel_rfl) rfl ?_
    refine AWL.callGT hG rfl rfl (B rfl) rfl ce_41 (E rfl rfl) (evsC (E rfl rfl) (evsC (E rfl rfl) evs0)) (formatInt41G n hn) ?_
    rintro t12 S12 rfl
    refine AWL.nil ?_
    refine AWP.one (i := 3) (by kernel_rfl) rfl ?_
    refine AWL.y rfl rfl (B rfl) (Yv.addL rfl (E rfl rfl) (E rfl rfl) (fun hg => by first | omega | (simp only [List.length_append, List.length_cons, List.length_nil]; omega))) ?_
    refine AWL.nil ?_
    refine AWP.one (i := 4) (by kernel_rfl) rfl ?_
    refine AWL.y rfl rfl (B rfl) (Yv.addL rfl (E rfl rfl) (E rfl rfl) (fun hg => by first | omega | (simp only [List.length_append, List.length_cons, List.length_nil]; omega))) ?_
    refine AWL.nil ?_
    refine AWP.one (i := 5) (by kernel_rfl) rfl ?_
    refine AWL.storeBox (i := 1) rfl rfl rfl ag_9 rfl (E rfl rfl) (E rfl rfl) rfl rfl (Nat.le_of_ble_eq_true rfl) ?_
    refine AWL.nil ?_
    refine AWP.done (by kernel_rfl) ?_
    refine retN .nil ?_
    (rw [putG, if_pos (show putOn f has = true from h0t)]; rfl)
   ·
    refine AWL.callGT hG rfl rfl (B rfl) rfl ce_41 (E rfl rfl) (evsC (E rfl rfl) (evsC (E rfl rfl) evs0)) (formatInt41G n hn) ?_
    rintro t12 S12 rfl
    refine AWL.nil ?_
    refine AWP.two (i := 0) (j := 3) (by kernel_rfl) rfl rfl ?_ ?_
    ·
     refine AWL.y rfl rfl (B rfl) (Yv.loadBox rfl ag_9 (i := 1) rfl (E rfl rfl) rfl) ?_
     refine AWL.nil ?_
     refine AWP.one (i := 3) (by kernel_rfl) rfl ?_
     refine AWL.y rfl rfl (B rfl) (Yv.addL rfl (E rfl rfl) (E rfl rfl) (fun hg => by first | omega | (simp only [List.length_append, List.length_cons, List.length_nil]; omega))) ?_
     refine AWL.nil ?_
     refine AWP.one (i := 4) (by kernel_rfl) rfl ?_
     refine AWL.y rfl rfl (B rfl) (Yv.addL rfl (E rfl rfl) (E rfl rfl) (fun hg => by first | omega | (simp only [List.length_append, List.length_cons, List.length_nil]; omega))) ?_
     refine AWL.nil ?_
     refine AWP.one (i := 5) (by kernel_rfl) rfl ?_
     refine AWL.storeBox (i := 1) rfl rfl rfl ag_9 rfl (E rfl rfl) (E rfl rfl) rfl rfl (Nat.le_of_ble_eq_true rfl) ?_
     refine AWL.nil ?_
     refine AWP.done (by kernel_rfl) ?_
     refine retN .nil ?_
     (rw [putG, if_pos (show putOn f has = true from h0t)]; rfl)
    ·
     refine AWL.y rfl rfl (B rfl) (Yv.addL rfl (E rfl rfl) (E rfl rfl) (fun hg => by first | omega | (simp only [List.length_append, List.length_cons, List.length_nil]; omega))) ?_
     refine AWL.nil ?_
     refine AWP.one (i := 0) (by kernel_rfl) rfl ?_
     refine AWL.y rfl rfl (B rfl) (Yv.loadBox rfl ag_9 (i := 1) rfl (E rfl rfl) rfl) ?_
     refine AWL.nil ?_
     refine AWP.one (i := 4) (by kernel_rfl) rfl ?_
     refine AWL.y rfl rfl (B rfl) (Yv.addL rfl (E rfl rfl) (E rfl rfl) (fun hg => by first | omega | (simp only [List.length_append, List.length_cons, List.length_nil]; omega))) ?_
     refine AWL.nil ?_
     refine AWP.one (i := 5) (by kernel_rfl) rfl ?_
     refine AWL.storeBox (i := 1) rfl rfl rfl ag_9 rfl (E rfl rfl) (E rfl rfl) rfl rfl (Nat.le_of_ble_eq_true rfl) ?_
     refine AWL.nil ?_
     refine AWP.done (by kernel_rfl) ?_
     refine retN .nil ?_
     (rw [putG, if_pos (show putOn f has = true from h0t)]; rfl)
  try replace h0f := of_decide_eq_false h0f
  refine AW.skip ?_
  refine retN .nil ?_
  (rw [putG, if_neg (show ¬ putOn f has = true from ne_true_of_eq_false h0f)])

set_option maxHeartbeats 1000000 in
theorem text14G (i : Ins) (hI : InsOk i) :
    ACallsG Tryd.prog tabG 14 [insT i] [] (fun t_ S => t_ = sv (textF i)) := by
  have l0 := wordT_len i.kind
  have l1 := putG_le (fieldsF i.kind).1 1 i.d (wordT i.kind) hI.d
  have l2 := putG_le (fieldsF i.kind).1 2 i.s (putG (fieldsF i.kind).1 1 i.d (wordT i.kind)) hI.s
  have l3 := putG_le (fieldsF i.kind).1 4 i.imm (putG (fieldsF i.kind).1 2 i.s (putG (fieldsF i.kind).1 1 i.d (wordT i.kind))) hI.imm
  have l4 := putG_le (fieldsF i.kind).1 8 i.cond (putG (fieldsF i.kind).1 4 i.imm (putG (fieldsF i.kind).1 2 i.s (putG (fieldsF i.kind).1 1 i.d (wordT i.kind)))) hI.cond
  have l5 := putG_le (fieldsF i.kind).1 16 i.size (putG (fieldsF i.kind).1 8 i.cond (putG (fieldsF i.kind).1 4 i.imm (putG (fieldsF i.kind).1 2 i.s (putG (fieldsF i.kind).1 1 i.d (wordT i.kind))))) hI.size
  refine ACallsG.intro Tryd.func14 rfl Tryd.ntmps14 (Nat.le_of_ble_eq_true rfl) rfl fun X w0 hG => ?_
  refine AW.rseq ?_
  refine AWL.boxOp rfl rfl (B rfl) rfl (E rfl rfl) rfl (fun b1 => ?_)
  refine AWL.y rfl rfl (B rfl) (Yv.assign rfl (E rfl rfl)) ?_
  refine AWL.nil ?_
  refine AW.seq ?_
  refine AW.rseq ?_
  refine AWL.y rfl rfl (B rfl) (Yv.loadBoxA rfl ag_23 (i := 0) rfl (E rfl rfl) rfl rfl) ?_
  refine AWL.callP rfl rfl (B rfl) rfl ce_12 (E rfl rfl) (evsC (E rfl rfl) evs0) (valid27 i) (fun t S h => h) ?_
  refine AWL.y rfl rfl (B rfl) (Yv.not rfl (E rfl rfl)) ?_
  refine AWL.nil ?_
  refine AW.cond rfl (fun h0t => ?_) (fun h0f => ?_)
  ·
   try replace h0t := of_decide_eq_true h0t
   have hval : ¬ validF i = true := by simpa using h0t
   refine AW.rseq ?_
   refine AWL.y rfl rfl (B rfl) (Yv.assign rfl (E rfl rfl)) ?_
   refine AWL.nil ?_
   refine AW.ret (retI (.tmp rfl .nil) ?_)
   rw [textF, if_neg hval]
   rfl
  try replace h0f := of_decide_eq_false h0f
  have hval : validF i = true := by simpa using h0f
  obtain ⟨hkk, hd, hs, hc⟩ := validF_regs hval
  refine AW.skip ?_
  refine AW.rseq ?_
  refine AWL.y rfl rfl (B rfl) (Yv.fieldBox rfl fo_23_0 (E rfl rfl)) ?_
  refine AWL.y rfl rfl (B rfl) (Yv.loadBox rfl ag_3 (i := 0) rfl (E rfl rfl) rfl) ?_
  refine AWL.callT rfl rfl (B rfl) rfl ce_35 (E rfl rfl) (evsC (E rfl rfl) evs0) (fields46 i.kind) ?_
  rintro t13 S13 rfl
  refine AWL.y rfl rfl (B rfl) (Yv.move rfl (E rfl rfl)) ?_
  refine AWL.y rfl rfl (B rfl) (Yv.extract rfl (E rfl rfl) rfl) ?_
  refine AWL.y rfl rfl (B rfl) (Yv.extract rfl (E rfl rfl) rfl) ?_
  refine AWL.allocOp rfl rfl (B rfl) rfl zc_3 (fun b3 => ?_)
  refine AWL.storeBox (i := 1) rfl rfl rfl ag_3 rfl (E rfl rfl) (E rfl rfl) rfl rfl (Nat.le_of_ble_eq_true rfl) ?_
  refine AWL.y rfl rfl (B rfl) (Yv.assign rfl (E rfl rfl)) ?_
  refine AWL.nil ?_
  refine AW.rseq ?_
  refine AWL.y rfl rfl (B rfl) (Yv.fieldBox rfl fo_23_0 (E rfl rfl)) ?_
  refine AWL.y rfl rfl (B rfl) (Yv.loadBox rfl ag_3 (i := 0) rfl (E rfl rfl) rfl) ?_
  refine AWL.callP rfl rfl (B rfl) rfl ce_39 (E rfl rfl) (evsC (E rfl rfl) evs0) (word39 i.kind hkk.1 hkk.2) (fun t S h => h) ?_
  refine AWL.allocOp rfl rfl (B rfl) rfl zc_9 (fun b5 => ?_)
  refine AWL.storeBox (i := 2) rfl rfl rfl ag_9 rfl (E rfl rfl) (E rfl rfl) rfl rfl (Nat.le_of_ble_eq_true rfl) ?_
  refine AWL.nil ?_
  refine AW.rseq ?_
  refine AWL.y rfl rfl (B rfl) (Yv.makeFunc rfl evs0 rfl (evsC (E rfl rfl) (evsC (E rfl rfl) evs0)) rfl) ?_
  refine AWL.y rfl rfl (B rfl) (Yv.assign rfl (E rfl rfl)) ?_
  refine AWL.nil ?_
  refine AW.perm (S' := [Ent.box b3 3 [T.v (.int .i64 (fieldsF i.kind).1)], Ent.box b5 9 [sv (wordT i.kind)]] ++ [.box b1 23 (insCells i)]) (List.perm_append_comm (l₁ := [_, _]) (l₂ := [_])) ?_
  refine AW.rseq ?_
  refine AWL.y rfl rfl (B rfl) (Yv.move rfl (E rfl rfl)) ?_
  refine AWL.y rfl rfl (B rfl) (Yv.fieldBox rfl fo_23_1 (E rfl rfl)) ?_
  refine AWL.y rfl rfl (B rfl) (Yv.loadBox rfl ag_3 (i := 2) rfl (E rfl rfl) rfl) ?_
  refine AWL.callG hG rfl rfl (B rfl) rfl ce_40 (E rfl rfl) (evsC (E rfl rfl) (evsC (E rfl rfl) evs0)) (S1 := [Ent.box b3 3 [T.v (.int .i64 (fieldsF i.kind).1)], Ent.box b5 9 [sv ((wordT i.kind))]]) (S2 := _) rfl (put40G 1 i.d (fieldsF i.kind).1 (wordT i.kind) b3 b5 hI.d (by omega)) ?_
  rintro t23 S23 rfl
  refine AWL.nil ?_
  refine AW.rseq ?_
  refine AWL.y rfl rfl (B rfl) (Yv.move rfl (E rfl rfl)) ?_
  refine AWL.y rfl rfl (B rfl) (Yv.fieldBox rfl fo_23_2 (E rfl rfl)) ?_
  refine AWL.y rfl rfl (B rfl) (Yv.loadBox rfl ag_3 (i := 2) rfl (E rfl rfl) rfl) ?_
  refine AWL.callG hG rfl rfl (B rfl) rfl ce_40 (E rfl rfl) (evsC (E rfl rfl) (evsC (E rfl rfl) evs0)) (S1 := [Ent.box b3 3 [T.v (.int .i64 (fieldsF i.kind).1)], Ent.box b5 9 [sv ((putG (fieldsF i.kind).1 1 i.d (wordT i.kind)))]]) (S2 := _) rfl (put40G 2 i.s (fieldsF i.kind).1 (putG (fieldsF i.kind).1 1 i.d (wordT i.kind)) b3 b5 hI.s (by omega)) ?_
  rintro t27 S27 rfl
  refine AWL.nil ?_
  refine AW.rseq ?_
  refine AWL.y rfl rfl (B rfl) (Yv.move rfl (E rfl rfl)) ?_
  refine AWL.y rfl rfl (B rfl) (Yv.fieldBox rfl fo_23_5 (E rfl rfl)) ?_
  refine AWL.y rfl rfl (B rfl) (Yv.loadBox rfl ag_2 (i := 2) rfl (E rfl rfl) rfl) ?_
  refine AWL.callG hG rfl rfl (B rfl) rfl ce_40 (E rfl rfl) (evsC (E rfl rfl) (evsC (E rfl rfl) evs0)) (S1 := [Ent.box b3 3 [T.v (.int .i64 (fieldsF i.kind).1)], Ent.box b5 9 [sv ((putG (fieldsF i.kind).1 2 i.s (putG (fieldsF i.kind).1 1 i.d (wordT i.kind))))]]) (S2 := _) rfl (put40G 4 i.imm (fieldsF i.kind).1 (putG (fieldsF i.kind).1 2 i.s (putG (fieldsF i.kind).1 1 i.d (wordT i.kind))) b3 b5 hI.imm (by omega)) ?_
  rintro t31 S31 rfl
  refine AWL.nil ?_
  refine AW.rseq ?_
  refine AWL.y rfl rfl (B rfl) (Yv.move rfl (E rfl rfl)) ?_
  refine AWL.y rfl rfl (B rfl) (Yv.fieldBox rfl fo_23_3 (E rfl rfl)) ?_
  refine AWL.y rfl rfl (B rfl) (Yv.loadBox rfl ag_3 (i := 2) rfl (E rfl rfl) rfl) ?_
  refine AWL.callG hG rfl rfl (B rfl) rfl ce_40 (E rfl rfl) (evsC (E rfl rfl) (evsC (E rfl rfl) evs0)) (S1 := [Ent.box b3 3 [T.v (.int .i64 (fieldsF i.kind).1)], Ent.box b5 9 [sv ((putG (fieldsF i.kind).1 4 i.imm (putG (fieldsF i.kind).1 2 i.s (putG (fieldsF i.kind).1 1 i.d (wordT i.kind)))))]]) (S2 := _) rfl (put40G 8 i.cond (fieldsF i.kind).1 (putG (fieldsF i.kind).1 4 i.imm (putG (fieldsF i.kind).1 2 i.s (putG (fieldsF i.kind).1 1 i.d (wordT i.kind)))) b3 b5 hI.cond (by omega)) ?_
  rintro t35 S35 rfl
  refine AWL.nil ?_
  refine AW.rseq ?_
  refine AWL.y rfl rfl (B rfl) (Yv.move rfl (E rfl rfl)) ?_
  refine AWL.y rfl rfl (B rfl) (Yv.fieldBox rfl fo_23_4 (E rfl rfl)) ?_
  refine AWL.y rfl rfl (B rfl) (Yv.loadBox rfl ag_3 (i := 2) rfl (E rfl rfl) rfl) ?_
  refine AWL.callG hG rfl rfl (B rfl) rfl ce_40 (E rfl rfl) (evsC (E rfl rfl) (evsC (E rfl rfl) evs0)) (S1 := [Ent.box b3 3 [T.v (.int .i64 (fieldsF i.kind).1)], Ent.box b5 9 [sv ((putG (fieldsF i.kind).1 8 i.cond (putG (fieldsF i.kind).1 4 i.imm (putG (fieldsF i.kind).1 2 i.s (putG (fieldsF i.kind).1 1 i.d (wordT i.kind))))))]]) (S2 := _) rfl (put40G 16 i.size (fieldsF i.kind).1 (putG (fieldsF i.kind).1 8 i.cond (putG (fieldsF i.kind).1 4 i.imm (putG (fieldsF i.kind).1 2 i.s (putG (fieldsF i.kind).1 1 i.d (wordT i.kind))))) b3 b5 hI.size (by omega)) ?_
  rintro t39 S39 rfl
  refine AWL.nil ?_
  refine AW.rseq ?_
  refine AWL.y rfl rfl (B rfl) (Yv.loadBox rfl ag_9 (i := 1) rfl (E rfl rfl) rfl) ?_
  refine AWL.y rfl rfl (B rfl) (Yv.assign rfl (E rfl rfl)) ?_
  refine AWL.nil ?_
  refine AW.ret (retI (.tmp rfl .nil) ?_)
  rw [textF, if_pos hval]
  rfl

theorem encode19q (i : Ins) : ACalls Tryd.prog 11 [insT i] [] (fun t_ S => t_ = .tup [encT i, .v (.int .i64 (encE i))]) := by
  have h : (fun t_ S => t_ = if validF i = true then .tup [u8s (encF i), .v (.int .i64 0)] else .tup [ofConst (.slice none 0 0), .v (.int .i64 200)]) = (fun (t_ : T) (S : St) => t_ = .tup [encT i, .v (.int .i64 (encE i))]) := by
    funext t S
    unfold encT encE
    split <;> rfl
  rw [← h]
  exact encode19 i
set_option maxHeartbeats 1000000 in
theorem X64Apart7 (i j : Ins) (hI : InsOk i) (hJ : InsOk j) :
    ACallsG Tryd.prog tabG 7 [insT i, insT j] [] fun t_ S => t_ = .v (.bool true) := by
  refine ACallsG.intro Tryd.func7 rfl Tryd.ntmps7 (Nat.le_of_ble_eq_true rfl) rfl fun X w0 hG => ?_
  refine AW.rseq ?_
  refine AWL.boxOp rfl rfl (B rfl) rfl (E rfl rfl) rfl (fun b2 => ?_)
  refine AWL.boxOp rfl rfl (B rfl) rfl (E rfl rfl) rfl (fun b3 => ?_)
  refine AWL.y rfl rfl (B rfl) (Yv.assign rfl (E rfl rfl)) ?_
  refine AWL.nil ?_
  refine AW.rseq ?_
  refine AWL.y rfl rfl (B rfl) (Yv.loadBoxA rfl ag_23 (i := 0) rfl (E rfl rfl) rfl rfl) ?_
  refine AWL.callT rfl rfl (B rfl) rfl ce_11 (E rfl rfl) (evsC (E rfl rfl) evs0) (encode19q i) ?_
  rintro t12 S12 rfl
  refine AWL.y rfl rfl (B rfl) (Yv.move rfl (E rfl rfl)) ?_
  refine AWL.y rfl rfl (B rfl) (Yv.extract rfl (E rfl rfl) rfl) ?_
  refine AWL.y rfl rfl (B rfl) (Yv.extract rfl (E rfl rfl) rfl) ?_
  refine AWL.y rfl rfl (B rfl) (Yv.assign rfl (E rfl rfl)) ?_
  refine AWL.y rfl rfl (B rfl) (Yv.assign rfl (E rfl rfl)) ?_
  refine AWL.nil ?_
  refine AW.rseq ?_
  refine AWL.y rfl rfl (B rfl) (Yv.loadBoxA rfl ag_23 (i := 1) rfl (E rfl rfl) rfl rfl) ?_
  refine AWL.callT rfl rfl (B rfl) rfl ce_11 (E rfl rfl) (evsC (E rfl rfl) evs0) (encode19q j) ?_
  rintro t17 S17 rfl
  refine AWL.y rfl rfl (B rfl) (Yv.move rfl (E rfl rfl)) ?_
  refine AWL.y rfl rfl (B rfl) (Yv.extract rfl (E rfl rfl) rfl) ?_
  refine AWL.y rfl rfl (B rfl) (Yv.extract rfl (E rfl rfl) rfl) ?_
  refine AWL.y rfl rfl (B rfl) (Yv.assign rfl (E rfl rfl)) ?_
  refine AWL.y rfl rfl (B rfl) (Yv.assign rfl (E rfl rfl)) ?_
  refine AWL.nil ?_
  refine AW.seq ?_
  refine AW.rseq ?_
  refine AWL.y rfl rfl (B rfl) (Yv.loadBoxA rfl ag_23 (i := 0) rfl (E rfl rfl) rfl rfl) ?_
  refine AWL.y rfl rfl (B rfl) (Yv.loadBoxA rfl ag_23 (i := 1) rfl (E rfl rfl) rfl rfl) ?_
  refine AWL.y rfl rfl (B rfl) (Yv.eqlA (us := insVals i) (vs := insVals j) rfl fl_23 (E rfl rfl) (E rfl rfl) rfl rfl (ins_eq i j)) ?_
  refine AWL.y rfl rfl (B rfl) (Yv.move rfl (E rfl rfl)) ?_
  refine AWL.ygF rfl rfl rfl rfl (B rfl) (Yv.move rfl (E rfl rfl)) ?_
  refine AWL.ygF rfl rfl rfl rfl (B rfl) (Yv.neq rfl (Eg rfl rfl id) (E rfl rfl)) ?_
  refine AWL.y rfl rfl (B rfl) (Yv.pickOr (t := .const (.bool true)) rfl (E rfl rfl) (Eg rfl rfl id)) ?_
  refine AWL.y rfl rfl (B rfl) (Yv.move rfl (E rfl rfl)) ?_
  refine AWL.ygF rfl rfl rfl rfl (B rfl) (Yv.move rfl (E rfl rfl)) ?_
  refine AWL.ygF rfl rfl rfl rfl (B rfl) (Yv.neq rfl (Eg rfl rfl id) (E rfl rfl)) ?_
  refine AWL.y rfl rfl (B rfl) (Yv.pickOr (t := .const (.bool true)) rfl (E rfl rfl) (Eg rfl rfl id)) ?_
  refine AWL.nil ?_
  refine AW.cond rfl (fun h0t => ?_) (fun h0f => ?_)
  ·
   try replace h0t := of_decide_eq_true h0t
   refine AW.rseq ?_
   refine AWL.callP rfl rfl (B rfl) rfl ce_16 (E rfl rfl) evs0 (known16) (fun t S h => h) ?_
   refine AWL.y rfl rfl (B rfl) (Yv.assign rfl (E rfl rfl)) ?_
   refine AWL.nil ?_
   refine AW.ret (retI (.tmp rfl .nil) ?_)
   rfl
  try replace h0f := of_decide_eq_false h0f
  simp only [Bool.or_eq_true, Bool.and_eq_true, Bool.or_eq_false_iff, Bool.and_eq_false_iff, Bool.not_eq_true', Bool.not_eq_false', decide_eq_true_eq, decide_eq_false_iff_not, Decidable.not_not] at h0f
  obtain ⟨⟨hne, hei⟩, hej⟩ := h0f
  have hvi := encE_valid hei
  have hvj := encE_valid hej
  rw [show encT i = u8s (encF i) from if_pos hvi, show encT j = u8s (encF j) from if_pos hvj]
  have hli := encF_len i
  have hlj := encF_len j
  refine AW.skip ?_
  refine AW.rseq ?_
  refine AWL.y rfl rfl (B rfl) (Yv.move rfl (E rfl rfl)) ?_
  refine AWL.y rfl rfl (B rfl) (Yv.lenSl rfl so_24 (B rfl) (E rfl rfl) len_u8s) ?_
  refine AWL.y rfl rfl (B rfl) (Yv.assign rfl (E rfl rfl)) ?_
  refine AWL.nil ?_
  refine AW.seq ?_
  refine AW.rseq ?_
  refine AWL.y rfl rfl (B rfl) (Yv.move rfl (E rfl rfl)) ?_
  refine AWL.y rfl rfl (B rfl) (Yv.lenSl rfl so_24 (B rfl) (E rfl rfl) len_u8s) ?_
  refine AWL.y rfl rfl (B rfl) (Yv.move rfl (E rfl rfl)) ?_
  refine AWL.y rfl rfl (B rfl) (Yv.lss rfl (E rfl rfl) (E rfl rfl)) ?_
  refine AWL.nil ?_
  refine AW.cond rfl (fun h1t => ?_) (fun h1f => ?_)
  ·
   try replace h1t := of_decide_eq_true h1t
   refine AW.region ?_
   refine AWL.y rfl rfl (B rfl) (Yv.move rfl (E rfl rfl)) ?_
   refine AWL.y rfl rfl (B rfl) (Yv.lenSl rfl so_24 (B rfl) (E rfl rfl) len_u8s) ?_
   refine AWL.y rfl rfl (B rfl) (Yv.assign rfl (E rfl rfl)) ?_
   refine AWL.nil ?_
   refine AW.rseqQ rfl (by kernel_rfl) ?_
   refine AWQ.y rfl rfl (B rfl) (Yv.move rfl (E rfl rfl)) ?_
   refine AWQ.y rfl rfl (B rfl) (Yv.move rfl (E rfl rfl)) ?_
   refine AWQ.y rfl rfl (B rfl) (Yv.sliceMap rfl ss_24 (E rfl rfl) Bound.none_ (Bound.some_ (E rfl rfl) (fun hg => rfl)) (fun hg => ⟨by omega, by omega⟩)) ?_
   refine AWQ.y rfl rfl (B rfl) (Yv.bytesStr rfl by_24 st_9 (E rfl rfl)) ?_
   refine AWQ.y rfl rfl (B rfl) (Yv.move rfl (E rfl rfl)) ?_
   refine AWQ.y rfl rfl (B rfl) (Yv.move rfl (E rfl rfl)) ?_
   refine AWQ.y rfl rfl (B rfl) (Yv.sliceMap rfl ss_24 (E rfl rfl) Bound.none_ (Bound.some_ (E rfl rfl) (fun hg => rfl)) (fun hg => ⟨by omega, by omega⟩)) ?_
   refine AWQ.y rfl rfl (B rfl) (Yv.bytesStr rfl by_24 st_9 (E rfl rfl)) ?_
   refine AWQ.y rfl rfl (B rfl) (Yv.neqL rfl (E rfl rfl) (E rfl rfl)) ?_
   refine AWQ.y rfl rfl (B rfl) (Yv.move rfl (E rfl rfl)) ?_
   refine AWQ.ygT rfl rfl rfl rfl (B rfl) (Yv.loadBoxA rfl ag_23 (i := 0) rfl (E rfl rfl) rfl rfl) ?_
   refine AWQ.callGPgT hG rfl rfl rfl rfl (B rfl) rfl ce_14 (E rfl rfl) (evsC (Eg rfl rfl id) evs0) (fun hg => text14G i hI) (fun t S h => h) ?_
   refine AWQ.ygT rfl rfl rfl rfl (B rfl) (Yv.loadBoxA rfl ag_23 (i := 1) rfl (E rfl rfl) rfl rfl) ?_
   refine AWQ.callGPgT hG rfl rfl rfl rfl (B rfl) rfl ce_14 (E rfl rfl) (evsC (Eg rfl rfl id) evs0) (fun hg => text14G j hJ) (fun t S h => h) ?_
   refine AWQ.ygT rfl rfl rfl rfl (B rfl) (Yv.neqL rfl (Eg rfl rfl id) (Eg rfl rfl id)) ?_
   refine AWQ.y rfl rfl (B rfl) (Yv.pickAnd rfl (E rfl rfl) (Eg rfl rfl id)) ?_
   refine AWQ.y rfl rfl (B rfl) (Yv.move rfl (E rfl rfl)) ?_
   refine AWQ.callPgT rfl rfl rfl rfl (B rfl) rfl ce_16 (E rfl rfl) evs0 (fun hg => known16) (fun t S h => h) ?_
   refine AWQ.y rfl rfl (B rfl) (Yv.pickAnd rfl (E rfl rfl) (Eg rfl rfl id)) ?_
   refine AWQ.y rfl rfl (B rfl) (Yv.assign rfl (E rfl rfl)) ?_
   refine AWQ.nil ?_
   refine AW.ret (retI (.tmp rfl .nil) ?_)
   show T.v (.bool _) = T.v (.bool true)
   have h2 : ¬ textF i = textF j := fun h => hne (text_inj hvi hvj h)
   rw [decide_eq_false (apart2 hvi hvj hI.imm hJ.imm hne h1t), decide_eq_false h2]
   rfl
  try replace h1f := of_decide_eq_false h1f
  refine AW.skip ?_
  refine AW.rseqQ rfl (by kernel_rfl) ?_
  refine AWQ.y rfl rfl (B rfl) (Yv.move rfl (E rfl rfl)) ?_
  refine AWQ.y rfl rfl (B rfl) (Yv.move rfl (E rfl rfl)) ?_
  refine AWQ.y rfl rfl (B rfl) (Yv.sliceMap rfl ss_24 (E rfl rfl) Bound.none_ (Bound.some_ (E rfl rfl) (fun hg => rfl)) (fun hg => ⟨by omega, by omega⟩)) ?_
  refine AWQ.y rfl rfl (B rfl) (Yv.bytesStr rfl by_24 st_9 (E rfl rfl)) ?_
  refine AWQ.y rfl rfl (B rfl) (Yv.move rfl (E rfl rfl)) ?_
  refine AWQ.y rfl rfl (B rfl) (Yv.move rfl (E rfl rfl)) ?_
  refine AWQ.y rfl rfl (B rfl) (Yv.sliceMap rfl ss_24 (E rfl rfl) Bound.none_ (Bound.some_ (E rfl rfl) (fun hg => rfl)) (fun hg => ⟨by omega, by omega⟩)) ?_
  refine AWQ.y rfl rfl (B rfl) (Yv.bytesStr rfl by_24 st_9 (E rfl rfl)) ?_
  refine AWQ.y rfl rfl (B rfl) (Yv.neqL rfl (E rfl rfl) (E rfl rfl)) ?_
  refine AWQ.y rfl rfl (B rfl) (Yv.move rfl (E rfl rfl)) ?_
  refine AWQ.ygT rfl rfl rfl rfl (B rfl) (Yv.loadBoxA rfl ag_23 (i := 0) rfl (E rfl rfl) rfl rfl) ?_
  refine AWQ.callGPgT hG rfl rfl rfl rfl (B rfl) rfl ce_14 (E rfl rfl) (evsC (Eg rfl rfl id) evs0) (fun hg => text14G i hI) (fun t S h => h) ?_
  refine AWQ.ygT rfl rfl rfl rfl (B rfl) (Yv.loadBoxA rfl ag_23 (i := 1) rfl (E rfl rfl) rfl rfl) ?_
  refine AWQ.callGPgT hG rfl rfl rfl rfl (B rfl) rfl ce_14 (E rfl rfl) (evsC (Eg rfl rfl id) evs0) (fun hg => text14G j hJ) (fun t S h => h) ?_
  refine AWQ.ygT rfl rfl rfl rfl (B rfl) (Yv.neqL rfl (Eg rfl rfl id) (Eg rfl rfl id)) ?_
  refine AWQ.y rfl rfl (B rfl) (Yv.pickAnd rfl (E rfl rfl) (Eg rfl rfl id)) ?_
  refine AWQ.y rfl rfl (B rfl) (Yv.move rfl (E rfl rfl)) ?_
  refine AWQ.callPgT rfl rfl rfl rfl (B rfl) rfl ce_16 (E rfl rfl) evs0 (fun hg => known16) (fun t S h => h) ?_
  refine AWQ.y rfl rfl (B rfl) (Yv.pickAnd rfl (E rfl rfl) (Eg rfl rfl id)) ?_
  refine AWQ.y rfl rfl (B rfl) (Yv.assign rfl (E rfl rfl)) ?_
  refine AWQ.nil ?_
  refine AW.ret (retI (.tmp rfl .nil) ?_)
  show T.v (.bool _) = T.v (.bool true)
  have h2 : ¬ textF i = textF j := fun h => hne (text_inj hvi hvj h)
  rw [decide_eq_false (apart1 hvi hvj hI.imm hJ.imm hne h1f), decide_eq_false h2]
  rfl

end Go.Proofs.YtjndpakhmgapjaaDoor
