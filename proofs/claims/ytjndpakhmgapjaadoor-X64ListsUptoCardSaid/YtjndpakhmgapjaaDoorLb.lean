/-
  TEXTS JOINED: Wk1, Aw22, Aw23, Aw24, Aw25, Enc, Wk2, Wk3.
-/
import Derived.Test.YtjndpakhmgapjaaDoorLa
set_option linter.unusedSimpArgs false
set_option linter.unusedVariables false
set_option linter.unusedSectionVars false
set_option linter.unnecessarySimpa false
namespace Go.Proofs.YtjndpakhmgapjaaDoor
open Go Go.RowKit
set_option linter.unusedVariables false
set_option linter.unnecessarySimpa false
set_option linter.unusedSimpArgs false

set_option maxHeartbeats 2000000 in
theorem fields46 (k : Int) :
    ACalls Tryd.prog 35 [.v (.int .i64 k)] [] fun t_ S => t_ = .tup [.v (.int .i64 (fieldsF k).1), .v (.bool (fieldsF k).2)] := by
  refine ACalls.intro Tryd.func35 rfl Tryd.ntmps35 (Nat.le_of_ble_eq_true rfl) rfl fun X w0 => ?_
  refine AW.rseq ?_
  refine Y1 (Yv.assign rfl eV) ?_
  refine Y1 (Yv.assign rfl eV) ?_
  refine nl ?_
  refine AW.seq ?_
  refine AW.rseq ?_
  refine Y1 (Yv.move rfl eV) ?_
  refine nl ?_
  refine AW.block ?_
  refine AW.seq ?_
  refine AW.block ?_
  refine AW.seq ?_
  refine AW.block ?_
  refine AW.seq ?_
  refine AW.block ?_
  refine AW.seq ?_
  refine AW.block ?_
  refine AW.seq ?_
  refine AW.block ?_
  refine AW.seq ?_
  refine AW.block ?_
  refine AW.seq ?_
  refine AW.block ?_
  refine AW.seq ?_
  refine AW.block ?_
  refine AW.seq ?_
  refine AW.block ?_
  refine AW.seq ?_
  refine AW.block ?_
  refine AW.seq ?_
  refine AW.block ?_
  refine AW.block ?_
  refine AW.seq ?_
  refine AW.seq ?_
  refine AW.seq ?_
  refine AW.rseq ?_
  refine Y1 (Yv.eql rfl eV eV) ?_
  refine Y1 (Yv.assign rfl eV) ?_
  refine nl ?_
  refine AW.cond rfl (fun h0t => ?_) (fun h0f => ?_)
  ·
   try replace h0t := of_decide_eq_true h0t
   refine AW.skip ?_
   refine AW.cond rfl (fun h1t => ?_) (fun h1f => ?_)
   ·
    try replace h1t := of_decide_eq_true h1t
    refine AW.exit ?_
    refine AW.seq ?_
    refine AW.rseq ?_
    refine Y1 (Yv.assign rfl eV) ?_
    refine Y1 (Yv.assign rfl eV) ?_
    refine nl ?_
    refine AW.ret (retI (.tmp rfl (.tmp rfl .nil)) ?_)
    rw [h0t]; rfl
   · exfalso; replace h1f := of_decide_eq_false h1f; omega
  try replace h0f := of_decide_eq_false h0f
  refine AW.rseq ?_
  refine Y1 (Yv.eql rfl eV eV) ?_
  refine Y1 (Yv.assign rfl eV) ?_
  refine nl ?_
  refine AW.cond rfl (fun h2t => ?_) (fun h2f => ?_)
  ·
   try replace h2t := of_decide_eq_true h2t
   refine AW.skip ?_
   refine AW.cond rfl (fun h3t => ?_) (fun h3f => ?_)
   ·
    try replace h3t := of_decide_eq_true h3t
    refine AW.exit ?_
    refine AW.seq ?_
    refine AW.rseq ?_
    refine Y1 (Yv.assign rfl eV) ?_
    refine Y1 (Yv.assign rfl eV) ?_
    refine nl ?_
    refine AW.ret (retI (.tmp rfl (.tmp rfl .nil)) ?_)
    rw [h2t]; rfl
   · exfalso; replace h3f := of_decide_eq_false h3f; omega
  try replace h2f := of_decide_eq_false h2f
  refine AW.rseq ?_
  refine Y1 (Yv.eql rfl eV eV) ?_
  refine Y1 (Yv.assign rfl eV) ?_
  refine nl ?_
  refine AW.cond rfl (fun h4t => ?_) (fun h4f => ?_)
  ·
   try replace h4t := of_decide_eq_true h4t
   refine AW.skip ?_
   refine AW.cond rfl (fun h5t => ?_) (fun h5f => ?_)
   ·
    try replace h5t := of_decide_eq_true h5t
    refine AW.exit ?_
    refine AW.seq ?_
    refine AW.rseq ?_
    refine Y1 (Yv.assign rfl eV) ?_
    refine Y1 (Yv.assign rfl eV) ?_
    refine nl ?_
    refine AW.ret (retI (.tmp rfl (.tmp rfl .nil)) ?_)
    rw [h4t]; rfl
   · exfalso; replace h5f := of_decide_eq_false h5f; omega
  try replace h4f := of_decide_eq_false h4f
  refine AW.rseq ?_
  refine Y1 (Yv.eql rfl eV eV) ?_
  refine Y1 (Yv.assign rfl eV) ?_
  refine nl ?_
  refine AW.cond rfl (fun h6t => ?_) (fun h6f => ?_)
  ·
   try replace h6t := of_decide_eq_true h6t
   refine AW.skip ?_
   refine AW.cond rfl (fun h7t => ?_) (fun h7f => ?_)
   ·
    try replace h7t := of_decide_eq_true h7t
    refine AW.exit ?_
    refine AW.seq ?_
    refine AW.rseq ?_
    refine Y1 (Yv.assign rfl eV) ?_
    refine Y1 (Yv.assign rfl eV) ?_
    refine nl ?_
    refine AW.ret (retI (.tmp rfl (.tmp rfl .nil)) ?_)
    rw [h6t]; rfl
   · exfalso; replace h7f := of_decide_eq_false h7f; omega
  try replace h6f := of_decide_eq_false h6f
  refine AW.rseq ?_
  refine Y1 (Yv.eql rfl eV eV) ?_
  refine Y1 (Yv.assign rfl eV) ?_
  refine nl ?_
  refine AW.cond rfl (fun h8t => ?_) (fun h8f => ?_)
  ·
   try replace h8t := of_decide_eq_true h8t
   refine AW.skip ?_
   refine AW.cond rfl (fun h9t => ?_) (fun h9f => ?_)
   ·
    try replace h9t := of_decide_eq_true h9t
    refine AW.exit ?_
    refine AW.seq ?_
    refine AW.rseq ?_
    refine Y1 (Yv.assign rfl eV) ?_
    refine Y1 (Yv.assign rfl eV) ?_
    refine nl ?_
    refine AW.ret (retI (.tmp rfl (.tmp rfl .nil)) ?_)
    rw [h8t]; rfl
   · exfalso; replace h9f := of_decide_eq_false h9f; omega
  try replace h8f := of_decide_eq_false h8f
  refine AW.rseq ?_
  refine Y1 (Yv.eql rfl eV eV) ?_
  refine Y1 (Yv.assign rfl eV) ?_
  refine nl ?_
  refine AW.cond rfl (fun h10t => ?_) (fun h10f => ?_)
  ·
   try replace h10t := of_decide_eq_true h10t
   refine AW.skip ?_
   refine AW.cond rfl (fun h11t => ?_) (fun h11f => ?_)
   ·
    try replace h11t := of_decide_eq_true h11t
    refine AW.exit ?_
    refine AW.seq ?_
    refine AW.rseq ?_
    refine Y1 (Yv.assign rfl eV) ?_
    refine Y1 (Yv.assign rfl eV) ?_
    refine nl ?_
    refine AW.ret (retI (.tmp rfl (.tmp rfl .nil)) ?_)
    rw [h10t]; rfl
   · exfalso; replace h11f := of_decide_eq_false h11f; omega
  try replace h10f := of_decide_eq_false h10f
  refine AW.rseq ?_
  refine Y1 (Yv.eql rfl eV eV) ?_
  refine Y1 (Yv.assign rfl eV) ?_
  refine nl ?_
  refine AW.cond rfl (fun h12t => ?_) (fun h12f => ?_)
  ·
   try replace h12t := of_decide_eq_true h12t
   refine AW.skip ?_
   refine AW.cond rfl (fun h13t => ?_) (fun h13f => ?_)
   ·
    try replace h13t := of_decide_eq_true h13t
    refine AW.exit ?_
    refine AW.seq ?_
    refine AW.rseq ?_
    refine Y1 (Yv.assign rfl eV) ?_
    refine Y1 (Yv.assign rfl eV) ?_
    refine nl ?_
    refine AW.ret (retI (.tmp rfl (.tmp rfl .nil)) ?_)
    rw [h12t]; rfl
   · exfalso; replace h13f := of_decide_eq_false h13f; omega
  try replace h12f := of_decide_eq_false h12f
  refine AW.rseq ?_
  refine Y1 (Yv.eql rfl eV eV) ?_
  refine Y1 (Yv.assign rfl eV) ?_
  refine nl ?_
  refine AW.cond rfl (fun h14t => ?_) (fun h14f => ?_)
  ·
   try replace h14t := of_decide_eq_true h14t
   refine AW.skip ?_
   refine AW.cond rfl (fun h15t => ?_) (fun h15f => ?_)
   ·
    try replace h15t := of_decide_eq_true h15t
    refine AW.exit ?_
    refine AW.seq ?_
    refine AW.rseq ?_
    refine Y1 (Yv.assign rfl eV) ?_
    refine Y1 (Yv.assign rfl eV) ?_
    refine nl ?_
    refine AW.ret (retI (.tmp rfl (.tmp rfl .nil)) ?_)
    rw [h14t]; rfl
   · exfalso; replace h15f := of_decide_eq_false h15f; omega
  try replace h14f := of_decide_eq_false h14f
  refine AW.rseq ?_
  refine Y1 (Yv.eql rfl eV eV) ?_
  refine Y1 (Yv.assign rfl eV) ?_
  refine nl ?_
  refine AW.cond rfl (fun h16t => ?_) (fun h16f => ?_)
  ·
   try replace h16t := of_decide_eq_true h16t
   refine AW.skip ?_
   refine AW.cond rfl (fun h17t => ?_) (fun h17f => ?_)
   ·
    try replace h17t := of_decide_eq_true h17t
    refine AW.exit ?_
    refine AW.seq ?_
    refine AW.rseq ?_
    refine Y1 (Yv.assign rfl eV) ?_
    refine Y1 (Yv.assign rfl eV) ?_
    refine nl ?_
    refine AW.ret (retI (.tmp rfl (.tmp rfl .nil)) ?_)
    rw [h16t]; rfl
   · exfalso; replace h17f := of_decide_eq_false h17f; omega
  try replace h16f := of_decide_eq_false h16f
  refine AW.rseq ?_
  refine Y1 (Yv.eql rfl eV eV) ?_
  refine Y1 (Yv.assign rfl eV) ?_
  refine nl ?_
  refine AW.cond rfl (fun h18t => ?_) (fun h18f => ?_)
  ·
   try replace h18t := of_decide_eq_true h18t
   refine AW.skip ?_
   refine AW.cond rfl (fun h19t => ?_) (fun h19f => ?_)
   ·
    try replace h19t := of_decide_eq_true h19t
    refine AW.exit ?_
    refine AW.seq ?_
    refine AW.rseq ?_
    refine Y1 (Yv.assign rfl eV) ?_
    refine Y1 (Yv.assign rfl eV) ?_
    refine nl ?_
    refine AW.ret (retI (.tmp rfl (.tmp rfl .nil)) ?_)
    rw [h18t]; rfl
   · exfalso; replace h19f := of_decide_eq_false h19f; omega
  try replace h18f := of_decide_eq_false h18f
  refine AW.rseq ?_
  refine Y1 (Yv.eql rfl eV eV) ?_
  refine Y1 (Yv.assign rfl eV) ?_
  refine nl ?_
  refine AW.cond rfl (fun h20t => ?_) (fun h20f => ?_)
  ·
   try replace h20t := of_decide_eq_true h20t
   refine AW.skip ?_
   refine AW.cond rfl (fun h21t => ?_) (fun h21f => ?_)
   ·
    try replace h21t := of_decide_eq_true h21t
    refine AW.exit ?_
    refine AW.seq ?_
    refine AW.rseq ?_
    refine Y1 (Yv.assign rfl eV) ?_
    refine Y1 (Yv.assign rfl eV) ?_
    refine nl ?_
    refine AW.ret (retI (.tmp rfl (.tmp rfl .nil)) ?_)
    rw [h20t]; rfl
   · exfalso; replace h21f := of_decide_eq_false h21f; omega
  try replace h20f := of_decide_eq_false h20f
  refine AW.region ?_
  refine Y1 (Yv.eql rfl eV eV) ?_
  refine Y1 (Yv.assign rfl eV) ?_
  refine nl ?_
  refine AW.cond rfl (fun h22t => ?_) (fun h22f => ?_)
  ·
   try replace h22t := of_decide_eq_true h22t
   refine AW.exit ?_
   refine AW.seq ?_
   refine AW.rseq ?_
   refine Y1 (Yv.assign rfl eV) ?_
   refine Y1 (Yv.assign rfl eV) ?_
   refine nl ?_
   refine AW.ret (retI (.tmp rfl (.tmp rfl .nil)) ?_)
   rw [h22t]; rfl
  try replace h22f := of_decide_eq_false h22f
  refine AW.skip ?_
  refine AW.seq ?_
  refine AW.seq ?_
  refine AW.rseq ?_
  refine Y1 (Yv.eql rfl eV eV) ?_
  refine Y1 (Yv.assign rfl eV) ?_
  refine nl ?_
  refine AW.cond rfl (fun h23t => ?_) (fun h23f => ?_)
  ·
   try replace h23t := of_decide_eq_true h23t
   refine AW.skip ?_
   refine AW.cond rfl (fun h24t => ?_) (fun h24f => ?_)
   ·
    try replace h24t := of_decide_eq_true h24t
    refine AW.exit ?_
    refine AW.seq ?_
    refine AW.rseq ?_
    refine Y1 (Yv.assign rfl eV) ?_
    refine Y1 (Yv.assign rfl eV) ?_
    refine nl ?_
    refine AW.ret (retI (.tmp rfl (.tmp rfl .nil)) ?_)
    rw [h23t]; rfl
   · exfalso; replace h24f := of_decide_eq_false h24f; omega
  try replace h23f := of_decide_eq_false h23f
  refine AW.rseq ?_
  refine Y1 (Yv.eql rfl eV eV) ?_
  refine Y1 (Yv.assign rfl eV) ?_
  refine nl ?_
  refine AW.cond rfl (fun h25t => ?_) (fun h25f => ?_)
  ·
   try replace h25t := of_decide_eq_true h25t
   refine AW.skip ?_
   refine AW.cond rfl (fun h26t => ?_) (fun h26f => ?_)
   ·
    try replace h26t := of_decide_eq_true h26t
    refine AW.exit ?_
    refine AW.seq ?_
    refine AW.rseq ?_
    refine Y1 (Yv.assign rfl eV) ?_
    refine Y1 (Yv.assign rfl eV) ?_
    refine nl ?_
    refine AW.ret (retI (.tmp rfl (.tmp rfl .nil)) ?_)
    rw [h25t]; rfl
   · exfalso; replace h26f := of_decide_eq_false h26f; omega
  try replace h25f := of_decide_eq_false h25f
  refine AW.rseq ?_
  refine Y1 (Yv.eql rfl eV eV) ?_
  refine Y1 (Yv.assign rfl eV) ?_
  refine nl ?_
  refine AW.cond rfl (fun h27t => ?_) (fun h27f => ?_)
  ·
   try replace h27t := of_decide_eq_true h27t
   refine AW.skip ?_
   refine AW.cond rfl (fun h28t => ?_) (fun h28f => ?_)
   ·
    try replace h28t := of_decide_eq_true h28t
    refine AW.exit ?_
    refine AW.seq ?_
    refine AW.rseq ?_
    refine Y1 (Yv.assign rfl eV) ?_
    refine Y1 (Yv.assign rfl eV) ?_
    refine nl ?_
    refine AW.ret (retI (.tmp rfl (.tmp rfl .nil)) ?_)
    rw [h27t]; rfl
   · exfalso; replace h28f := of_decide_eq_false h28f; omega
  try replace h27f := of_decide_eq_false h27f
  refine AW.rseq ?_
  refine Y1 (Yv.eql rfl eV eV) ?_
  refine Y1 (Yv.assign rfl eV) ?_
  refine nl ?_
  refine AW.cond rfl (fun h29t => ?_) (fun h29f => ?_)
  ·
   try replace h29t := of_decide_eq_true h29t
   refine AW.skip ?_
   refine AW.cond rfl (fun h30t => ?_) (fun h30f => ?_)
   ·
    try replace h30t := of_decide_eq_true h30t
    refine AW.exit ?_
    refine AW.seq ?_
    refine AW.rseq ?_
    refine Y1 (Yv.assign rfl eV) ?_
    refine Y1 (Yv.assign rfl eV) ?_
    refine nl ?_
    refine AW.ret (retI (.tmp rfl (.tmp rfl .nil)) ?_)
    rw [h29t]; rfl
   · exfalso; replace h30f := of_decide_eq_false h30f; omega
  try replace h29f := of_decide_eq_false h29f
  refine AW.rseq ?_
  refine Y1 (Yv.eql rfl eV eV) ?_
  refine Y1 (Yv.assign rfl eV) ?_
  refine nl ?_
  refine AW.cond rfl (fun h31t => ?_) (fun h31f => ?_)
  ·
   try replace h31t := of_decide_eq_true h31t
   refine AW.skip ?_
   refine AW.cond rfl (fun h32t => ?_) (fun h32f => ?_)
   ·
    try replace h32t := of_decide_eq_true h32t
    refine AW.exit ?_
    refine AW.seq ?_
    refine AW.rseq ?_
    refine Y1 (Yv.assign rfl eV) ?_
    refine Y1 (Yv.assign rfl eV) ?_
    refine nl ?_
    refine AW.ret (retI (.tmp rfl (.tmp rfl .nil)) ?_)
    rw [h31t]; rfl
   · exfalso; replace h32f := of_decide_eq_false h32f; omega
  try replace h31f := of_decide_eq_false h31f
  refine AW.rseq ?_
  refine Y1 (Yv.eql rfl eV eV) ?_
  refine Y1 (Yv.assign rfl eV) ?_
  refine nl ?_
  refine AW.cond rfl (fun h33t => ?_) (fun h33f => ?_)
  ·
   try replace h33t := of_decide_eq_true h33t
   refine AW.skip ?_
   refine AW.cond rfl (fun h34t => ?_) (fun h34f => ?_)
   ·
    try replace h34t := of_decide_eq_true h34t
    refine AW.exit ?_
    refine AW.seq ?_
    refine AW.rseq ?_
    refine Y1 (Yv.assign rfl eV) ?_
    refine Y1 (Yv.assign rfl eV) ?_
    refine nl ?_
    refine AW.ret (retI (.tmp rfl (.tmp rfl .nil)) ?_)
    rw [h33t]; rfl
   · exfalso; replace h34f := of_decide_eq_false h34f; omega
  try replace h33f := of_decide_eq_false h33f
  refine AW.rseq ?_
  refine Y1 (Yv.eql rfl eV eV) ?_
  refine Y1 (Yv.assign rfl eV) ?_
  refine nl ?_
  refine AW.cond rfl (fun h35t => ?_) (fun h35f => ?_)
  ·
   try replace h35t := of_decide_eq_true h35t
   refine AW.skip ?_
   refine AW.cond rfl (fun h36t => ?_) (fun h36f => ?_)
   ·
    try replace h36t := of_decide_eq_true h36t
    refine AW.exit ?_
    refine AW.seq ?_
    refine AW.rseq ?_
    refine Y1 (Yv.assign rfl eV) ?_
    refine Y1 (Yv.assign rfl eV) ?_
    refine nl ?_
    refine AW.ret (retI (.tmp rfl (.tmp rfl .nil)) ?_)
    rw [h35t]; rfl
   · exfalso; replace h36f := of_decide_eq_false h36f; omega
  try replace h35f := of_decide_eq_false h35f
  refine AW.region ?_
  refine Y1 (Yv.eql rfl eV eV) ?_
  refine Y1 (Yv.assign rfl eV) ?_
  refine nl ?_
  refine AW.cond rfl (fun h37t => ?_) (fun h37f => ?_)
  ·
   try replace h37t := of_decide_eq_true h37t
   refine AW.exit ?_
   refine AW.seq ?_
   refine AW.rseq ?_
   refine Y1 (Yv.assign rfl eV) ?_
   refine Y1 (Yv.assign rfl eV) ?_
   refine nl ?_
   refine AW.ret (retI (.tmp rfl (.tmp rfl .nil)) ?_)
   rw [h37t]; rfl
  try replace h37f := of_decide_eq_false h37f
  refine AW.skip ?_
  refine AW.seq ?_
  refine AW.seq ?_
  refine AW.rseq ?_
  refine Y1 (Yv.eql rfl eV eV) ?_
  refine Y1 (Yv.assign rfl eV) ?_
  refine nl ?_
  refine AW.cond rfl (fun h38t => ?_) (fun h38f => ?_)
  ·
   try replace h38t := of_decide_eq_true h38t
   refine AW.skip ?_
   refine AW.cond rfl (fun h39t => ?_) (fun h39f => ?_)
   ·
    try replace h39t := of_decide_eq_true h39t
    refine AW.exit ?_
    refine AW.seq ?_
    refine AW.rseq ?_
    refine Y1 (Yv.assign rfl eV) ?_
    refine Y1 (Yv.assign rfl eV) ?_
    refine nl ?_
    refine AW.ret (retI (.tmp rfl (.tmp rfl .nil)) ?_)
    rw [h38t]; rfl
   · exfalso; replace h39f := of_decide_eq_false h39f; omega
  try replace h38f := of_decide_eq_false h38f
  refine AW.rseq ?_
  refine Y1 (Yv.eql rfl eV eV) ?_
  refine Y1 (Yv.assign rfl eV) ?_
  refine nl ?_
  refine AW.cond rfl (fun h40t => ?_) (fun h40f => ?_)
  ·
   try replace h40t := of_decide_eq_true h40t
   refine AW.skip ?_
   refine AW.cond rfl (fun h41t => ?_) (fun h41f => ?_)
   ·
    try replace h41t := of_decide_eq_true h41t
    refine AW.exit ?_
    refine AW.seq ?_
    refine AW.rseq ?_
    refine Y1 (Yv.assign rfl eV) ?_
    refine Y1 (Yv.assign rfl eV) ?_
    refine nl ?_
    refine AW.ret (retI (.tmp rfl (.tmp rfl .nil)) ?_)
    rw [h40t]; rfl
   · exfalso; replace h41f := of_decide_eq_false h41f; omega
  try replace h40f := of_decide_eq_false h40f
  refine AW.rseq ?_
  refine Y1 (Yv.eql rfl eV eV) ?_
  refine Y1 (Yv.assign rfl eV) ?_
  refine nl ?_
  refine AW.cond rfl (fun h42t => ?_) (fun h42f => ?_)
  ·
   try replace h42t := of_decide_eq_true h42t
   refine AW.skip ?_
   refine AW.cond rfl (fun h43t => ?_) (fun h43f => ?_)
   ·
    try replace h43t := of_decide_eq_true h43t
    refine AW.exit ?_
    refine AW.seq ?_
    refine AW.rseq ?_
    refine Y1 (Yv.assign rfl eV) ?_
    refine Y1 (Yv.assign rfl eV) ?_
    refine nl ?_
    refine AW.ret (retI (.tmp rfl (.tmp rfl .nil)) ?_)
    rw [h42t]; rfl
   · exfalso; replace h43f := of_decide_eq_false h43f; omega
  try replace h42f := of_decide_eq_false h42f
  refine AW.rseq ?_
  refine Y1 (Yv.eql rfl eV eV) ?_
  refine Y1 (Yv.assign rfl eV) ?_
  refine nl ?_
  refine AW.cond rfl (fun h44t => ?_) (fun h44f => ?_)
  ·
   try replace h44t := of_decide_eq_true h44t
   refine AW.skip ?_
   refine AW.cond rfl (fun h45t => ?_) (fun h45f => ?_)
   ·
    try replace h45t := of_decide_eq_true h45t
    refine AW.exit ?_
    refine AW.seq ?_
    refine AW.rseq ?_
    refine Y1 (Yv.assign rfl eV) ?_
    refine Y1 (Yv.assign rfl eV) ?_
    refine nl ?_
    refine AW.ret (retI (.tmp rfl (.tmp rfl .nil)) ?_)
    rw [h44t]; rfl
   · exfalso; replace h45f := of_decide_eq_false h45f; omega
  try replace h44f := of_decide_eq_false h44f
  refine AW.rseq ?_
  refine Y1 (Yv.eql rfl eV eV) ?_
  refine Y1 (Yv.assign rfl eV) ?_
  refine nl ?_
  refine AW.cond rfl (fun h46t => ?_) (fun h46f => ?_)
  ·
   try replace h46t := of_decide_eq_true h46t
   refine AW.skip ?_
   refine AW.cond rfl (fun h47t => ?_) (fun h47f => ?_)
   ·
    try replace h47t := of_decide_eq_true h47t
    refine AW.exit ?_
    refine AW.seq ?_
    refine AW.rseq ?_
    refine Y1 (Yv.assign rfl eV) ?_
    refine Y1 (Yv.assign rfl eV) ?_
    refine nl ?_
    refine AW.ret (retI (.tmp rfl (.tmp rfl .nil)) ?_)
    rw [h46t]; rfl
   · exfalso; replace h47f := of_decide_eq_false h47f; omega
  try replace h46f := of_decide_eq_false h46f
  refine AW.rseq ?_
  refine Y1 (Yv.eql rfl eV eV) ?_
  refine Y1 (Yv.assign rfl eV) ?_
  refine nl ?_
  refine AW.cond rfl (fun h48t => ?_) (fun h48f => ?_)
  ·
   try replace h48t := of_decide_eq_true h48t
   refine AW.skip ?_
   refine AW.cond rfl (fun h49t => ?_) (fun h49f => ?_)
   ·
    try replace h49t := of_decide_eq_true h49t
    refine AW.exit ?_
    refine AW.seq ?_
    refine AW.rseq ?_
    refine Y1 (Yv.assign rfl eV) ?_
    refine Y1 (Yv.assign rfl eV) ?_
    refine nl ?_
    refine AW.ret (retI (.tmp rfl (.tmp rfl .nil)) ?_)
    rw [h48t]; rfl
   · exfalso; replace h49f := of_decide_eq_false h49f; omega
  try replace h48f := of_decide_eq_false h48f
  refine AW.rseq ?_
  refine Y1 (Yv.eql rfl eV eV) ?_
  refine Y1 (Yv.assign rfl eV) ?_
  refine nl ?_
  refine AW.cond rfl (fun h50t => ?_) (fun h50f => ?_)
  ·
   try replace h50t := of_decide_eq_true h50t
   refine AW.skip ?_
   refine AW.cond rfl (fun h51t => ?_) (fun h51f => ?_)
   ·
    try replace h51t := of_decide_eq_true h51t
    refine AW.exit ?_
    refine AW.seq ?_
    refine AW.rseq ?_
    refine Y1 (Yv.assign rfl eV) ?_
    refine Y1 (Yv.assign rfl eV) ?_
    refine nl ?_
    refine AW.ret (retI (.tmp rfl (.tmp rfl .nil)) ?_)
    rw [h50t]; rfl
   · exfalso; replace h51f := of_decide_eq_false h51f; omega
  try replace h50f := of_decide_eq_false h50f
  refine AW.rseq ?_
  refine Y1 (Yv.eql rfl eV eV) ?_
  refine Y1 (Yv.assign rfl eV) ?_
  refine nl ?_
  refine AW.cond rfl (fun h52t => ?_) (fun h52f => ?_)
  ·
   try replace h52t := of_decide_eq_true h52t
   refine AW.skip ?_
   refine AW.cond rfl (fun h53t => ?_) (fun h53f => ?_)
   ·
    try replace h53t := of_decide_eq_true h53t
    refine AW.exit ?_
    refine AW.seq ?_
    refine AW.rseq ?_
    refine Y1 (Yv.assign rfl eV) ?_
    refine Y1 (Yv.assign rfl eV) ?_
    refine nl ?_
    refine AW.ret (retI (.tmp rfl (.tmp rfl .nil)) ?_)
    rw [h52t]; rfl
   · exfalso; replace h53f := of_decide_eq_false h53f; omega
  try replace h52f := of_decide_eq_false h52f
  refine AW.rseq ?_
  refine Y1 (Yv.eql rfl eV eV) ?_
  refine Y1 (Yv.assign rfl eV) ?_
  refine nl ?_
  refine AW.cond rfl (fun h54t => ?_) (fun h54f => ?_)
  ·
   try replace h54t := of_decide_eq_true h54t
   refine AW.skip ?_
   refine AW.cond rfl (fun h55t => ?_) (fun h55f => ?_)
   ·
    try replace h55t := of_decide_eq_true h55t
    refine AW.exit ?_
    refine AW.seq ?_
    refine AW.rseq ?_
    refine Y1 (Yv.assign rfl eV) ?_
    refine Y1 (Yv.assign rfl eV) ?_
    refine nl ?_
    refine AW.ret (retI (.tmp rfl (.tmp rfl .nil)) ?_)
    rw [h54t]; rfl
   · exfalso; replace h55f := of_decide_eq_false h55f; omega
  try replace h54f := of_decide_eq_false h54f
  refine AW.region ?_
  refine Y1 (Yv.eql rfl eV eV) ?_
  refine Y1 (Yv.assign rfl eV) ?_
  refine nl ?_
  refine AW.cond rfl (fun h56t => ?_) (fun h56f => ?_)
  ·
   try replace h56t := of_decide_eq_true h56t
   refine AW.exit ?_
   refine AW.seq ?_
   refine AW.rseq ?_
   refine Y1 (Yv.assign rfl eV) ?_
   refine Y1 (Yv.assign rfl eV) ?_
   refine nl ?_
   refine AW.ret (retI (.tmp rfl (.tmp rfl .nil)) ?_)
   rw [h56t]; rfl
  try replace h56f := of_decide_eq_false h56f
  refine AW.skip ?_
  refine AW.seq ?_
  refine AW.seq ?_
  refine AW.rseq ?_
  refine Y1 (Yv.eql rfl eV eV) ?_
  refine Y1 (Yv.assign rfl eV) ?_
  refine nl ?_
  refine AW.cond rfl (fun h57t => ?_) (fun h57f => ?_)
  ·
   try replace h57t := of_decide_eq_true h57t
   refine AW.skip ?_
   refine AW.cond rfl (fun h58t => ?_) (fun h58f => ?_)
   ·
    try replace h58t := of_decide_eq_true h58t
    refine AW.exit ?_
    refine AW.seq ?_
    refine AW.rseq ?_
    refine Y1 (Yv.assign rfl eV) ?_
    refine Y1 (Yv.assign rfl eV) ?_
    refine nl ?_
    refine AW.ret (retI (.tmp rfl (.tmp rfl .nil)) ?_)
    rw [h57t]; rfl
   · exfalso; replace h58f := of_decide_eq_false h58f; omega
  try replace h57f := of_decide_eq_false h57f
  refine AW.region ?_
  refine Y1 (Yv.eql rfl eV eV) ?_
  refine Y1 (Yv.assign rfl eV) ?_
  refine nl ?_
  refine AW.cond rfl (fun h59t => ?_) (fun h59f => ?_)
  ·
   try replace h59t := of_decide_eq_true h59t
   refine AW.exit ?_
   refine AW.seq ?_
   refine AW.rseq ?_
   refine Y1 (Yv.assign rfl eV) ?_
   refine Y1 (Yv.assign rfl eV) ?_
   refine nl ?_
   refine AW.ret (retI (.tmp rfl (.tmp rfl .nil)) ?_)
   rw [h59t]; rfl
  try replace h59f := of_decide_eq_false h59f
  refine AW.skip ?_
  refine AW.seq ?_
  refine AW.rseq ?_
  refine Y1 (Yv.eql rfl eV eV) ?_
  refine Y1 (Yv.assign rfl eV) ?_
  refine nl ?_
  refine AW.cond rfl (fun h60t => ?_) (fun h60f => ?_)
  ·
   try replace h60t := of_decide_eq_true h60t
   refine AW.exit ?_
   refine AW.seq ?_
   refine AW.rseq ?_
   refine Y1 (Yv.assign rfl eV) ?_
   refine Y1 (Yv.assign rfl eV) ?_
   refine nl ?_
   refine AW.ret (retI (.tmp rfl (.tmp rfl .nil)) ?_)
   rw [h60t]; rfl
  try replace h60f := of_decide_eq_false h60f
  refine AW.skip ?_
  refine AW.seq ?_
  refine AW.seq ?_
  refine AW.rseq ?_
  refine Y1 (Yv.eql rfl eV eV) ?_
  refine Y1 (Yv.assign rfl eV) ?_
  refine nl ?_
  refine AW.cond rfl (fun h61t => ?_) (fun h61f => ?_)
  ·
   try replace h61t := of_decide_eq_true h61t
   refine AW.skip ?_
   refine AW.cond rfl (fun h62t => ?_) (fun h62f => ?_)
   ·
    try replace h62t := of_decide_eq_true h62t
    refine AW.exit ?_
    refine AW.seq ?_
    refine AW.rseq ?_
    refine Y1 (Yv.assign rfl eV) ?_
    refine Y1 (Yv.assign rfl eV) ?_
    refine nl ?_
    refine AW.ret (retI (.tmp rfl (.tmp rfl .nil)) ?_)
    rw [h61t]; rfl
   · exfalso; replace h62f := of_decide_eq_false h62f; omega
  try replace h61f := of_decide_eq_false h61f
  refine AW.rseq ?_
  refine Y1 (Yv.eql rfl eV eV) ?_
  refine Y1 (Yv.assign rfl eV) ?_
  refine nl ?_
  refine AW.cond rfl (fun h63t => ?_) (fun h63f => ?_)
  ·
   try replace h63t := of_decide_eq_true h63t
   refine AW.skip ?_
   refine AW.cond rfl (fun h64t => ?_) (fun h64f => ?_)
   ·
    try replace h64t := of_decide_eq_true h64t
    refine AW.exit ?_
    refine AW.seq ?_
    refine AW.rseq ?_
    refine Y1 (Yv.assign rfl eV) ?_
    refine Y1 (Yv.assign rfl eV) ?_
    refine nl ?_
    refine AW.ret (retI (.tmp rfl (.tmp rfl .nil)) ?_)
    rw [h63t]; rfl
   · exfalso; replace h64f := of_decide_eq_false h64f; omega
  try replace h63f := of_decide_eq_false h63f
  refine AW.rseq ?_
  refine Y1 (Yv.eql rfl eV eV) ?_
  refine Y1 (Yv.assign rfl eV) ?_
  refine nl ?_
  refine AW.cond rfl (fun h65t => ?_) (fun h65f => ?_)
  ·
   try replace h65t := of_decide_eq_true h65t
   refine AW.skip ?_
   refine AW.cond rfl (fun h66t => ?_) (fun h66f => ?_)
   ·
    try replace h66t := of_decide_eq_true h66t
    refine AW.exit ?_
    refine AW.seq ?_
    refine AW.rseq ?_
    refine Y1 (Yv.assign rfl eV) ?_
    refine Y1 (Yv.assign rfl eV) ?_
    refine nl ?_
    refine AW.ret (retI (.tmp rfl (.tmp rfl .nil)) ?_)
    rw [h65t]; rfl
   · exfalso; replace h66f := of_decide_eq_false h66f; omega
  try replace h65f := of_decide_eq_false h65f
  refine AW.rseq ?_
  refine Y1 (Yv.eql rfl eV eV) ?_
  refine Y1 (Yv.assign rfl eV) ?_
  refine nl ?_
  refine AW.cond rfl (fun h67t => ?_) (fun h67f => ?_)
  ·
   try replace h67t := of_decide_eq_true h67t
   refine AW.skip ?_
   refine AW.cond rfl (fun h68t => ?_) (fun h68f => ?_)
   ·
    try replace h68t := of_decide_eq_true h68t
    refine AW.exit ?_
    refine AW.seq ?_
    refine AW.rseq ?_
    refine Y1 (Yv.assign rfl eV) ?_
    refine Y1 (Yv.assign rfl eV) ?_
    refine nl ?_
    refine AW.ret (retI (.tmp rfl (.tmp rfl .nil)) ?_)
    rw [h67t]; rfl
   · exfalso; replace h68f := of_decide_eq_false h68f; omega
  try replace h67f := of_decide_eq_false h67f
  refine AW.rseq ?_
  refine Y1 (Yv.eql rfl eV eV) ?_
  refine Y1 (Yv.assign rfl eV) ?_
  refine nl ?_
  refine AW.cond rfl (fun h69t => ?_) (fun h69f => ?_)
  ·
   try replace h69t := of_decide_eq_true h69t
   refine AW.skip ?_
   refine AW.cond rfl (fun h70t => ?_) (fun h70f => ?_)
   ·
    try replace h70t := of_decide_eq_true h70t
    refine AW.exit ?_
    refine AW.seq ?_
    refine AW.rseq ?_
    refine Y1 (Yv.assign rfl eV) ?_
    refine Y1 (Yv.assign rfl eV) ?_
    refine nl ?_
    refine AW.ret (retI (.tmp rfl (.tmp rfl .nil)) ?_)
    rw [h69t]; rfl
   · exfalso; replace h70f := of_decide_eq_false h70f; omega
  try replace h69f := of_decide_eq_false h69f
  refine AW.rseq ?_
  refine Y1 (Yv.eql rfl eV eV) ?_
  refine Y1 (Yv.assign rfl eV) ?_
  refine nl ?_
  refine AW.cond rfl (fun h71t => ?_) (fun h71f => ?_)
  ·
   try replace h71t := of_decide_eq_true h71t
   refine AW.skip ?_
   refine AW.cond rfl (fun h72t => ?_) (fun h72f => ?_)
   ·
    try replace h72t := of_decide_eq_true h72t
    refine AW.exit ?_
    refine AW.seq ?_
    refine AW.rseq ?_
    refine Y1 (Yv.assign rfl eV) ?_
    refine Y1 (Yv.assign rfl eV) ?_
    refine nl ?_
    refine AW.ret (retI (.tmp rfl (.tmp rfl .nil)) ?_)
    rw [h71t]; rfl
   · exfalso; replace h72f := of_decide_eq_false h72f; omega
  try replace h71f := of_decide_eq_false h71f
  refine AW.rseq ?_
  refine Y1 (Yv.eql rfl eV eV) ?_
  refine Y1 (Yv.assign rfl eV) ?_
  refine nl ?_
  refine AW.cond rfl (fun h73t => ?_) (fun h73f => ?_)
  ·
   try replace h73t := of_decide_eq_true h73t
   refine AW.skip ?_
   refine AW.cond rfl (fun h74t => ?_) (fun h74f => ?_)
   ·
    try replace h74t := of_decide_eq_true h74t
    refine AW.exit ?_
    refine AW.seq ?_
    refine AW.rseq ?_
    refine Y1 (Yv.assign rfl eV) ?_
    refine Y1 (Yv.assign rfl eV) ?_
    refine nl ?_
    refine AW.ret (retI (.tmp rfl (.tmp rfl .nil)) ?_)
    rw [h73t]; rfl
   · exfalso; replace h74f := of_decide_eq_false h74f; omega
  try replace h73f := of_decide_eq_false h73f
  refine AW.rseq ?_
  refine Y1 (Yv.eql rfl eV eV) ?_
  refine Y1 (Yv.assign rfl eV) ?_
  refine nl ?_
  refine AW.cond rfl (fun h75t => ?_) (fun h75f => ?_)
  ·
   try replace h75t := of_decide_eq_true h75t
   refine AW.skip ?_
   refine AW.cond rfl (fun h76t => ?_) (fun h76f => ?_)
   ·
    try replace h76t := of_decide_eq_true h76t
    refine AW.exit ?_
    refine AW.seq ?_
    refine AW.rseq ?_
    refine Y1 (Yv.assign rfl eV) ?_
    refine Y1 (Yv.assign rfl eV) ?_
    refine nl ?_
    refine AW.ret (retI (.tmp rfl (.tmp rfl .nil)) ?_)
    rw [h75t]; rfl
   · exfalso; replace h76f := of_decide_eq_false h76f; omega
  try replace h75f := of_decide_eq_false h75f
  refine AW.rseq ?_
  refine Y1 (Yv.eql rfl eV eV) ?_
  refine Y1 (Yv.assign rfl eV) ?_
  refine nl ?_
  refine AW.cond rfl (fun h77t => ?_) (fun h77f => ?_)
  ·
   try replace h77t := of_decide_eq_true h77t
   refine AW.skip ?_
   refine AW.cond rfl (fun h78t => ?_) (fun h78f => ?_)
   ·
    try replace h78t := of_decide_eq_true h78t
    refine AW.exit ?_
    refine AW.seq ?_
    refine AW.rseq ?_
    refine Y1 (Yv.assign rfl eV) ?_
    refine Y1 (Yv.assign rfl eV) ?_
    refine nl ?_
    refine AW.ret (retI (.tmp rfl (.tmp rfl .nil)) ?_)
    rw [h77t]; rfl
   · exfalso; replace h78f := of_decide_eq_false h78f; omega
  try replace h77f := of_decide_eq_false h77f
  refine AW.rseq ?_
  refine Y1 (Yv.eql rfl eV eV) ?_
  refine Y1 (Yv.assign rfl eV) ?_
  refine nl ?_
  refine AW.cond rfl (fun h79t => ?_) (fun h79f => ?_)
  ·
   try replace h79t := of_decide_eq_true h79t
   refine AW.skip ?_
   refine AW.cond rfl (fun h80t => ?_) (fun h80f => ?_)
   ·
    try replace h80t := of_decide_eq_true h80t
    refine AW.exit ?_
    refine AW.seq ?_
    refine AW.rseq ?_
    refine Y1 (Yv.assign rfl eV) ?_
    refine Y1 (Yv.assign rfl eV) ?_
    refine nl ?_
    refine AW.ret (retI (.tmp rfl (.tmp rfl .nil)) ?_)
    rw [h79t]; rfl
   · exfalso; replace h80f := of_decide_eq_false h80f; omega
  try replace h79f := of_decide_eq_false h79f
  refine AW.region ?_
  refine Y1 (Yv.eql rfl eV eV) ?_
  refine Y1 (Yv.assign rfl eV) ?_
  refine nl ?_
  refine AW.cond rfl (fun h81t => ?_) (fun h81f => ?_)
  ·
   try replace h81t := of_decide_eq_true h81t
   refine AW.exit ?_
   refine AW.seq ?_
   refine AW.rseq ?_
   refine Y1 (Yv.assign rfl eV) ?_
   refine Y1 (Yv.assign rfl eV) ?_
   refine nl ?_
   refine AW.ret (retI (.tmp rfl (.tmp rfl .nil)) ?_)
   rw [h81t]; rfl
  try replace h81f := of_decide_eq_false h81f
  refine AW.skip ?_
  refine AW.seq ?_
  refine AW.rseq ?_
  refine Y1 (Yv.eql rfl eV eV) ?_
  refine Y1 (Yv.assign rfl eV) ?_
  refine nl ?_
  refine AW.cond rfl (fun h82t => ?_) (fun h82f => ?_)
  ·
   try replace h82t := of_decide_eq_true h82t
   refine AW.exit ?_
   refine AW.seq ?_
   refine AW.rseq ?_
   refine Y1 (Yv.assign rfl eV) ?_
   refine Y1 (Yv.assign rfl eV) ?_
   refine nl ?_
   refine AW.ret (retI (.tmp rfl (.tmp rfl .nil)) ?_)
   rw [h82t]; rfl
  try replace h82f := of_decide_eq_false h82f
  refine AW.skip ?_
  refine AW.seq ?_
  refine AW.rseq ?_
  refine Y1 (Yv.eql rfl eV eV) ?_
  refine Y1 (Yv.assign rfl eV) ?_
  refine nl ?_
  refine AW.cond rfl (fun h83t => ?_) (fun h83f => ?_)
  ·
   try replace h83t := of_decide_eq_true h83t
   refine AW.exit ?_
   refine AW.seq ?_
   refine AW.rseq ?_
   refine Y1 (Yv.assign rfl eV) ?_
   refine Y1 (Yv.assign rfl eV) ?_
   refine nl ?_
   refine AW.ret (retI (.tmp rfl (.tmp rfl .nil)) ?_)
   rw [h83t]; rfl
  try replace h83f := of_decide_eq_false h83f
  refine AW.skip ?_
  refine AW.seq ?_
  refine AW.rseq ?_
  refine Y1 (Yv.eql rfl eV eV) ?_
  refine Y1 (Yv.assign rfl eV) ?_
  refine nl ?_
  refine AW.cond rfl (fun h84t => ?_) (fun h84f => ?_)
  ·
   try replace h84t := of_decide_eq_true h84t
   refine AW.exit ?_
   refine AW.seq ?_
   refine AW.rseq ?_
   refine Y1 (Yv.assign rfl eV) ?_
   refine Y1 (Yv.assign rfl eV) ?_
   refine nl ?_
   refine AW.ret (retI (.tmp rfl (.tmp rfl .nil)) ?_)
   rw [h84t]; rfl
  try replace h84f := of_decide_eq_false h84f
  refine AW.skip ?_
  refine AW.seq ?_
  refine AW.rseq ?_
  refine Y1 (Yv.eql rfl eV eV) ?_
  refine Y1 (Yv.assign rfl eV) ?_
  refine nl ?_
  refine AW.cond rfl (fun h85t => ?_) (fun h85f => ?_)
  ·
   try replace h85t := of_decide_eq_true h85t
   refine AW.exit ?_
   refine AW.seq ?_
   refine AW.rseq ?_
   refine Y1 (Yv.assign rfl eV) ?_
   refine Y1 (Yv.assign rfl eV) ?_
   refine nl ?_
   refine AW.ret (retI (.tmp rfl (.tmp rfl .nil)) ?_)
   rw [h85t]; rfl
  try replace h85f := of_decide_eq_false h85f
  refine AW.skip ?_
  refine AW.seq ?_
  refine AW.rseq ?_
  refine Y1 (Yv.eql rfl eV eV) ?_
  refine Y1 (Yv.assign rfl eV) ?_
  refine nl ?_
  refine AW.cond rfl (fun h86t => ?_) (fun h86f => ?_)
  ·
   try replace h86t := of_decide_eq_true h86t
   refine AW.exit ?_
   refine AW.seq ?_
   refine AW.rseq ?_
   refine Y1 (Yv.assign rfl eV) ?_
   refine Y1 (Yv.assign rfl eV) ?_
   refine nl ?_
   refine AW.ret (retI (.tmp rfl (.tmp rfl .nil)) ?_)
   rw [h86t]; rfl
  try replace h86f := of_decide_eq_false h86f
  refine AW.skip ?_
  refine AW.seq ?_
  refine AW.rseq ?_
  refine Y1 (Yv.eql rfl eV eV) ?_
  refine Y1 (Yv.assign rfl eV) ?_
  refine nl ?_
  refine AW.cond rfl (fun h87t => ?_) (fun h87f => ?_)
  ·
   try replace h87t := of_decide_eq_true h87t
   refine AW.skip ?_
   refine AW.cond rfl (fun h88t => ?_) (fun h88f => ?_)
   ·
    try replace h88t := of_decide_eq_true h88t
    refine AW.exit ?_
    refine AW.seq ?_
    refine AW.rseq ?_
    refine Y1 (Yv.assign rfl eV) ?_
    refine Y1 (Yv.assign rfl eV) ?_
    refine nl ?_
    refine AW.ret (retI (.tmp rfl (.tmp rfl .nil)) ?_)
    rw [h87t]; rfl
   · exfalso; replace h88f := of_decide_eq_false h88f; omega
  try replace h87f := of_decide_eq_false h87f
  refine AW.rseq ?_
  refine Y1 (Yv.eql rfl eV eV) ?_
  refine Y1 (Yv.assign rfl eV) ?_
  refine nl ?_
  refine AW.cond rfl (fun h89t => ?_) (fun h89f => ?_)
  ·
   try replace h89t := of_decide_eq_true h89t
   refine AW.skip ?_
   refine AW.cond rfl (fun h90t => ?_) (fun h90f => ?_)
   ·
    try replace h90t := of_decide_eq_true h90t
    refine AW.exit ?_
    refine AW.seq ?_
    refine AW.rseq ?_
    refine Y1 (Yv.assign rfl eV) ?_
    refine Y1 (Yv.assign rfl eV) ?_
    refine nl ?_
    refine AW.ret (retI (.tmp rfl (.tmp rfl .nil)) ?_)
    rw [h89t]; rfl
   · exfalso; replace h90f := of_decide_eq_false h90f; omega
  try replace h89f := of_decide_eq_false h89f
  refine AW.region ?_
  refine Y1 (Yv.eql rfl eV eV) ?_
  refine Y1 (Yv.assign rfl eV) ?_
  refine nl ?_
  refine AW.cond rfl (fun h91t => ?_) (fun h91f => ?_)
  ·
   try replace h91t := of_decide_eq_true h91t
   refine AW.exit ?_
   refine AW.seq ?_
   refine AW.rseq ?_
   refine Y1 (Yv.assign rfl eV) ?_
   refine Y1 (Yv.assign rfl eV) ?_
   refine nl ?_
   refine AW.ret (retI (.tmp rfl (.tmp rfl .nil)) ?_)
   rw [h91t]; rfl
  try replace h91f := of_decide_eq_false h91f
  refine AW.skip ?_
  refine AW.exit ?_
  refine AW.rseq ?_
  refine Y1 (Yv.assign rfl eV) ?_
  refine Y1 (Yv.assign rfl eV) ?_
  refine nl ?_
  refine AW.ret (retI (.tmp rfl (.tmp rfl .nil)) ?_)
  rw [fields_out (by omega)]; rfl

set_option maxHeartbeats 400000 in
theorem in47 (n lo hi : Int) :
    ACalls Tryd.prog 36 [.v (.int .i64 n), .v (.int .i64 lo), .v (.int .i64 hi)] [] fun t_ S => t_ = .v (.bool (inF n lo hi)) := by
  refine ACalls.intro Tryd.func36 rfl Tryd.ntmps36 (Nat.le_of_ble_eq_true rfl) rfl fun X w0 => ?_
  refine AW.rseq ?_
  refine Y1 (Yv.assign rfl eV) ?_
  refine nl ?_
  refine AW.rseq ?_
  refine Y1 (Yv.move rfl eV) ?_
  refine Y1 (Yv.move rfl eV) ?_
  refine Y1 (Yv.geq rfl eV eV) ?_
  refine Y1 (Yv.move rfl eV) ?_
  refine AWL.ygT rfl rfl rfl rfl (B rfl) (Yv.move rfl (E rfl rfl)) ?_
  refine AWL.ygT rfl rfl rfl rfl (B rfl) (Yv.move rfl (E rfl rfl)) ?_
  refine AWL.ygT rfl rfl rfl rfl (B rfl) (Yv.leq rfl (Eg rfl rfl id) (Eg rfl rfl id)) ?_
  refine Y1 (Yv.pickAnd rfl (E rfl rfl) (Eg rfl rfl id)) ?_
  refine Y1 (Yv.assign rfl eV) ?_
  refine nl ?_
  refine AW.ret (retI (.tmp rfl .nil) ?_)
  rfl

set_option maxHeartbeats 400000 in
theorem small38 (n : Int) :
    ACalls Tryd.prog 31 [.v (.int .i64 n)] [] fun t_ S => t_ = .v (.bool (smallF n)) := by
  refine ACalls.intro Tryd.func31 rfl Tryd.ntmps31 (Nat.le_of_ble_eq_true rfl) rfl fun X w0 => ?_
  refine AW.rseq ?_
  refine Y1 (Yv.assign rfl eV) ?_
  refine nl ?_
  refine AW.rseq ?_
  refine Y1 (Yv.move rfl eV) ?_
  refine AWL.callP rfl rfl (B rfl) rfl ce_36 (E rfl rfl) (evsC (E rfl rfl) (evsC (E rfl rfl) (evsC (E rfl rfl) evs0))) (in47 n _ _) (fun t S h => h) ?_
  refine Y1 (Yv.assign rfl eV) ?_
  refine nl ?_
  refine AW.ret (retI (.tmp rfl .nil) ?_)
  rfl

set_option maxHeartbeats 400000 in
theorem sized49 (i : Ins) :
    ACalls Tryd.prog 38 [insT i] [] fun t_ S => t_ = .v (.bool (sizedF i)) := by
  refine ACalls.intro Tryd.func38 rfl Tryd.ntmps38 (Nat.le_of_ble_eq_true rfl) rfl fun X w0 => ?_
  refine AW.rseq ?_
  refine AWL.boxOp rfl rfl (B rfl) rfl (E rfl rfl) rfl (fun b1 => ?_)
  refine Y1 (Yv.assign rfl eV) ?_
  refine nl ?_
  refine AW.seq ?_
  refine AW.rseq ?_
  refine Y1 (Yv.fieldBox rfl fo_23_0 eV) ?_
  refine Y1 (Yv.loadBox rfl ag_3 (i := 0) rfl (E rfl rfl) rfl) ?_
  refine nl ?_
  refine AW.block ?_
  refine AW.seq ?_
  refine AW.rseq ?_
  refine Y1 (Yv.eql rfl eV eV) ?_
  refine Y1 (Yv.assign rfl eV) ?_
  refine nl ?_
  refine AW.cond rfl (fun h0t => ?_) (fun h0f => ?_)
  ·
   try replace h0t := of_decide_eq_true h0t
   refine AW.skip ?_
   refine AW.cond rfl (fun h1t => ?_) (fun h1f => ?_)
   ·
    try replace h1t := of_decide_eq_true h1t
    refine AW.rseq ?_
    refine Y1 (Yv.fieldBox rfl fo_23_4 eV) ?_
    refine Y1 (Yv.loadBox rfl ag_3 (i := 0) rfl (E rfl rfl) rfl) ?_
    refine Y1 (Yv.eql rfl eV eV) ?_
    refine Y1 (Yv.move rfl eV) ?_
    refine AWL.ygF rfl rfl rfl rfl (B rfl) (Yv.fieldBox rfl fo_23_4 (E rfl rfl)) ?_
    refine AWL.ygF rfl rfl rfl rfl (B rfl) (Yv.loadBox rfl ag_3 (i := 0) rfl (Eg rfl rfl id) rfl) ?_
    refine AWL.ygF rfl rfl rfl rfl (B rfl) (Yv.eql rfl (Eg rfl rfl id) (E rfl rfl)) ?_
    refine Y1 (Yv.pickOr (t := .const (.bool true)) rfl (E rfl rfl) (Eg rfl rfl id)) ?_
    refine Y1 (Yv.move rfl eV) ?_
    refine AWL.ygF rfl rfl rfl rfl (B rfl) (Yv.fieldBox rfl fo_23_4 (E rfl rfl)) ?_
    refine AWL.ygF rfl rfl rfl rfl (B rfl) (Yv.loadBox rfl ag_3 (i := 0) rfl (Eg rfl rfl id) rfl) ?_
    refine AWL.ygF rfl rfl rfl rfl (B rfl) (Yv.eql rfl (Eg rfl rfl id) (E rfl rfl)) ?_
    refine Y1 (Yv.pickOr (t := .const (.bool true)) rfl (E rfl rfl) (Eg rfl rfl id)) ?_
    refine Y1 (Yv.move rfl eV) ?_
    refine AWL.ygT rfl rfl rfl rfl (B rfl) (Yv.fieldBox rfl fo_23_5 (E rfl rfl)) ?_
    refine AWL.ygT rfl rfl rfl rfl (B rfl) (Yv.loadBox rfl ag_2 (i := 0) rfl (Eg rfl rfl id) rfl) ?_
    refine AWL.callPgT rfl rfl rfl rfl (B rfl) rfl ce_31 (E rfl rfl) (evsC (Eg rfl rfl id) evs0) (fun hg => small38 i.imm) (fun t S h => h) ?_
    refine Y1 (Yv.pickAnd rfl (E rfl rfl) (Eg rfl rfl id)) ?_
    refine Y1 (Yv.assign rfl eV) ?_
    refine nl ?_
    refine AW.ret (retI (.tmp rfl .nil) ?_)
    show T.v (.bool _) = T.v (.bool _)
    rw [sizedF, if_pos (by omega)]
   · exfalso; replace h1f := of_decide_eq_false h1f; omega
  try replace h0f := of_decide_eq_false h0f
  refine AW.region ?_
  refine Y1 (Yv.eql rfl eV eV) ?_
  refine Y1 (Yv.assign rfl eV) ?_
  refine nl ?_
  refine AW.cond rfl (fun h2t => ?_) (fun h2f => ?_)
  ·
   try replace h2t := of_decide_eq_true h2t
   refine AW.rseq ?_
   refine Y1 (Yv.fieldBox rfl fo_23_4 eV) ?_
   refine Y1 (Yv.loadBox rfl ag_3 (i := 0) rfl (E rfl rfl) rfl) ?_
   refine Y1 (Yv.eql rfl eV eV) ?_
   refine Y1 (Yv.move rfl eV) ?_
   refine AWL.ygF rfl rfl rfl rfl (B rfl) (Yv.fieldBox rfl fo_23_4 (E rfl rfl)) ?_
   refine AWL.ygF rfl rfl rfl rfl (B rfl) (Yv.loadBox rfl ag_3 (i := 0) rfl (Eg rfl rfl id) rfl) ?_
   refine AWL.ygF rfl rfl rfl rfl (B rfl) (Yv.eql rfl (Eg rfl rfl id) (E rfl rfl)) ?_
   refine Y1 (Yv.pickOr (t := .const (.bool true)) rfl (E rfl rfl) (Eg rfl rfl id)) ?_
   refine Y1 (Yv.move rfl eV) ?_
   refine AWL.ygF rfl rfl rfl rfl (B rfl) (Yv.fieldBox rfl fo_23_4 (E rfl rfl)) ?_
   refine AWL.ygF rfl rfl rfl rfl (B rfl) (Yv.loadBox rfl ag_3 (i := 0) rfl (Eg rfl rfl id) rfl) ?_
   refine AWL.ygF rfl rfl rfl rfl (B rfl) (Yv.eql rfl (Eg rfl rfl id) (E rfl rfl)) ?_
   refine Y1 (Yv.pickOr (t := .const (.bool true)) rfl (E rfl rfl) (Eg rfl rfl id)) ?_
   refine Y1 (Yv.move rfl eV) ?_
   refine AWL.ygT rfl rfl rfl rfl (B rfl) (Yv.fieldBox rfl fo_23_5 (E rfl rfl)) ?_
   refine AWL.ygT rfl rfl rfl rfl (B rfl) (Yv.loadBox rfl ag_2 (i := 0) rfl (Eg rfl rfl id) rfl) ?_
   refine AWL.callPgT rfl rfl rfl rfl (B rfl) rfl ce_31 (E rfl rfl) (evsC (Eg rfl rfl id) evs0) (fun hg => small38 i.imm) (fun t S h => h) ?_
   refine Y1 (Yv.pickAnd rfl (E rfl rfl) (Eg rfl rfl id)) ?_
   refine Y1 (Yv.assign rfl eV) ?_
   refine nl ?_
   refine AW.ret (retI (.tmp rfl .nil) ?_)
   show T.v (.bool _) = T.v (.bool _)
   rw [sizedF, if_pos (by omega)]
  try replace h2f := of_decide_eq_false h2f
  refine AW.seq ?_
  refine AW.rseq ?_
  refine Y1 (Yv.eql rfl eV eV) ?_
  refine Y1 (Yv.assign rfl eV) ?_
  refine nl ?_
  refine AW.cond rfl (fun h3t => ?_) (fun h3f => ?_)
  ·
   try replace h3t := of_decide_eq_true h3t
   refine AW.skip ?_
   refine AW.cond rfl (fun h4t => ?_) (fun h4f => ?_)
   ·
    try replace h4t := of_decide_eq_true h4t
    refine AW.rseq ?_
    refine Y1 (Yv.fieldBox rfl fo_23_4 eV) ?_
    refine Y1 (Yv.loadBox rfl ag_3 (i := 0) rfl (E rfl rfl) rfl) ?_
    refine Y1 (Yv.eql rfl eV eV) ?_
    refine Y1 (Yv.move rfl eV) ?_
    refine AWL.ygT rfl rfl rfl rfl (B rfl) (Yv.fieldBox rfl fo_23_5 (E rfl rfl)) ?_
    refine AWL.ygT rfl rfl rfl rfl (B rfl) (Yv.loadBox rfl ag_2 (i := 0) rfl (Eg rfl rfl id) rfl) ?_
    refine AWL.callPgT rfl rfl rfl rfl (B rfl) rfl ce_31 (E rfl rfl) (evsC (Eg rfl rfl id) evs0) (fun hg => small38 i.imm) (fun t S h => h) ?_
    refine Y1 (Yv.pickAnd rfl (E rfl rfl) (Eg rfl rfl id)) ?_
    refine Y1 (Yv.move rfl eV) ?_
    refine AWL.ygF rfl rfl rfl rfl (B rfl) (Yv.fieldBox rfl fo_23_4 (E rfl rfl)) ?_
    refine AWL.ygF rfl rfl rfl rfl (B rfl) (Yv.loadBox rfl ag_3 (i := 0) rfl (Eg rfl rfl id) rfl) ?_
    refine AWL.ygF rfl rfl rfl rfl (B rfl) (Yv.eql rfl (Eg rfl rfl id) (E rfl rfl)) ?_
    refine AWL.ygF rfl rfl rfl rfl (B rfl) (Yv.move rfl (Eg rfl rfl id)) ?_
    refine AWL.ygT rfl rfl rfl rfl (B rfl) (Yv.fieldBox rfl fo_23_5 (E rfl rfl)) ?_
    refine AWL.ygT rfl rfl rfl rfl (B rfl) (Yv.loadBox rfl ag_2 (i := 0) rfl (Eg rfl rfl id) rfl) ?_
    refine AWL.callPgT rfl rfl rfl rfl (B rfl) rfl ce_36 (E rfl rfl) (evsC (Eg rfl rfl id) (evsC (E rfl rfl) (evsC (E rfl rfl) evs0))) (fun hg => in47 i.imm _ _) (fun t S h => h) ?_
    refine AWL.ygF rfl rfl rfl rfl (B rfl) (Yv.pickAnd rfl (Eg rfl rfl id) (Eg rfl rfl id)) ?_
    refine Y1 (Yv.pickOr (t := .const (.bool true)) rfl (E rfl rfl) (Eg rfl rfl id)) ?_
    refine Y1 (Yv.assign rfl eV) ?_
    refine nl ?_
    refine AW.ret (retI (.tmp rfl .nil) ?_)
    show T.v (.bool _) = T.v (.bool _)
    rw [sizedF, if_neg (by omega), if_pos (by omega)]
   · exfalso; replace h4f := of_decide_eq_false h4f; omega
  try replace h3f := of_decide_eq_false h3f
  refine AW.region ?_
  refine Y1 (Yv.eql rfl eV eV) ?_
  refine Y1 (Yv.assign rfl eV) ?_
  refine nl ?_
  refine AW.cond rfl (fun h5t => ?_) (fun h5f => ?_)
  ·
   try replace h5t := of_decide_eq_true h5t
   refine AW.rseq ?_
   refine Y1 (Yv.fieldBox rfl fo_23_4 eV) ?_
   refine Y1 (Yv.loadBox rfl ag_3 (i := 0) rfl (E rfl rfl) rfl) ?_
   refine Y1 (Yv.eql rfl eV eV) ?_
   refine Y1 (Yv.move rfl eV) ?_
   refine AWL.ygT rfl rfl rfl rfl (B rfl) (Yv.fieldBox rfl fo_23_5 (E rfl rfl)) ?_
   refine AWL.ygT rfl rfl rfl rfl (B rfl) (Yv.loadBox rfl ag_2 (i := 0) rfl (Eg rfl rfl id) rfl) ?_
   refine AWL.callPgT rfl rfl rfl rfl (B rfl) rfl ce_31 (E rfl rfl) (evsC (Eg rfl rfl id) evs0) (fun hg => small38 i.imm) (fun t S h => h) ?_
   refine Y1 (Yv.pickAnd rfl (E rfl rfl) (Eg rfl rfl id)) ?_
   refine Y1 (Yv.move rfl eV) ?_
   refine AWL.ygF rfl rfl rfl rfl (B rfl) (Yv.fieldBox rfl fo_23_4 (E rfl rfl)) ?_
   refine AWL.ygF rfl rfl rfl rfl (B rfl) (Yv.loadBox rfl ag_3 (i := 0) rfl (Eg rfl rfl id) rfl) ?_
   refine AWL.ygF rfl rfl rfl rfl (B rfl) (Yv.eql rfl (Eg rfl rfl id) (E rfl rfl)) ?_
   refine AWL.ygF rfl rfl rfl rfl (B rfl) (Yv.move rfl (Eg rfl rfl id)) ?_
   refine AWL.ygT rfl rfl rfl rfl (B rfl) (Yv.fieldBox rfl fo_23_5 (E rfl rfl)) ?_
   refine AWL.ygT rfl rfl rfl rfl (B rfl) (Yv.loadBox rfl ag_2 (i := 0) rfl (Eg rfl rfl id) rfl) ?_
   refine AWL.callPgT rfl rfl rfl rfl (B rfl) rfl ce_36 (E rfl rfl) (evsC (Eg rfl rfl id) (evsC (E rfl rfl) (evsC (E rfl rfl) evs0))) (fun hg => in47 i.imm _ _) (fun t S h => h) ?_
   refine AWL.ygF rfl rfl rfl rfl (B rfl) (Yv.pickAnd rfl (Eg rfl rfl id) (Eg rfl rfl id)) ?_
   refine Y1 (Yv.pickOr (t := .const (.bool true)) rfl (E rfl rfl) (Eg rfl rfl id)) ?_
   refine Y1 (Yv.assign rfl eV) ?_
   refine nl ?_
   refine AW.ret (retI (.tmp rfl .nil) ?_)
   show T.v (.bool _) = T.v (.bool _)
   rw [sizedF, if_neg (by omega), if_pos (by omega)]
  try replace h5f := of_decide_eq_false h5f
  refine AW.seq ?_
  refine AW.rseq ?_
  refine Y1 (Yv.eql rfl eV eV) ?_
  refine Y1 (Yv.assign rfl eV) ?_
  refine nl ?_
  refine AW.cond rfl (fun h6t => ?_) (fun h6f => ?_)
  ·
   try replace h6t := of_decide_eq_true h6t
   refine AW.skip ?_
   refine AW.cond rfl (fun h7t => ?_) (fun h7f => ?_)
   ·
    try replace h7t := of_decide_eq_true h7t
    refine AW.rseq ?_
    refine Y1 (Yv.fieldBox rfl fo_23_5 eV) ?_
    refine Y1 (Yv.loadBox rfl ag_2 (i := 0) rfl (E rfl rfl) rfl) ?_
    refine AWL.callP rfl rfl (B rfl) rfl ce_36 (E rfl rfl) (evsC (E rfl rfl) (evsC (E rfl rfl) (evsC (E rfl rfl) evs0))) (in47 i.imm _ _) (fun t S h => h) ?_
    refine Y1 (Yv.assign rfl eV) ?_
    refine nl ?_
    refine AW.ret (retI (.tmp rfl .nil) ?_)
    show T.v (.bool _) = T.v (.bool _)
    rw [sizedF, if_neg (by omega), if_neg (by omega), if_pos (by omega)]
   · exfalso; replace h7f := of_decide_eq_false h7f; omega
  try replace h6f := of_decide_eq_false h6f
  refine AW.rseq ?_
  refine Y1 (Yv.eql rfl eV eV) ?_
  refine Y1 (Yv.assign rfl eV) ?_
  refine nl ?_
  refine AW.cond rfl (fun h8t => ?_) (fun h8f => ?_)
  ·
   try replace h8t := of_decide_eq_true h8t
   refine AW.skip ?_
   refine AW.cond rfl (fun h9t => ?_) (fun h9f => ?_)
   ·
    try replace h9t := of_decide_eq_true h9t
    refine AW.rseq ?_
    refine Y1 (Yv.fieldBox rfl fo_23_5 eV) ?_
    refine Y1 (Yv.loadBox rfl ag_2 (i := 0) rfl (E rfl rfl) rfl) ?_
    refine AWL.callP rfl rfl (B rfl) rfl ce_36 (E rfl rfl) (evsC (E rfl rfl) (evsC (E rfl rfl) (evsC (E rfl rfl) evs0))) (in47 i.imm _ _) (fun t S h => h) ?_
    refine Y1 (Yv.assign rfl eV) ?_
    refine nl ?_
    refine AW.ret (retI (.tmp rfl .nil) ?_)
    show T.v (.bool _) = T.v (.bool _)
    rw [sizedF, if_neg (by omega), if_neg (by omega), if_pos (by omega)]
   · exfalso; replace h9f := of_decide_eq_false h9f; omega
  try replace h8f := of_decide_eq_false h8f
  refine AW.region ?_
  refine Y1 (Yv.eql rfl eV eV) ?_
  refine Y1 (Yv.assign rfl eV) ?_
  refine nl ?_
  refine AW.cond rfl (fun h10t => ?_) (fun h10f => ?_)
  ·
   try replace h10t := of_decide_eq_true h10t
   refine AW.rseq ?_
   refine Y1 (Yv.fieldBox rfl fo_23_5 eV) ?_
   refine Y1 (Yv.loadBox rfl ag_2 (i := 0) rfl (E rfl rfl) rfl) ?_
   refine AWL.callP rfl rfl (B rfl) rfl ce_36 (E rfl rfl) (evsC (E rfl rfl) (evsC (E rfl rfl) (evsC (E rfl rfl) evs0))) (in47 i.imm _ _) (fun t S h => h) ?_
   refine Y1 (Yv.assign rfl eV) ?_
   refine nl ?_
   refine AW.ret (retI (.tmp rfl .nil) ?_)
   show T.v (.bool _) = T.v (.bool _)
   rw [sizedF, if_neg (by omega), if_neg (by omega), if_pos (by omega)]
  try replace h10f := of_decide_eq_false h10f
  refine AW.skip ?_
  refine AW.rseq ?_
  refine Y1 (Yv.fieldBox rfl fo_23_0 eV) ?_
  refine Y1 (Yv.loadBox rfl ag_3 (i := 0) rfl (E rfl rfl) rfl) ?_
  refine Y1 (Yv.eql rfl eV eV) ?_
  refine Y1 (Yv.move rfl eV) ?_
  refine AWL.ygF rfl rfl rfl rfl (B rfl) (Yv.fieldBox rfl fo_23_5 (E rfl rfl)) ?_
  refine AWL.ygF rfl rfl rfl rfl (B rfl) (Yv.loadBox rfl ag_2 (i := 0) rfl (Eg rfl rfl id) rfl) ?_
  refine AWL.callPgF rfl rfl rfl rfl (B rfl) rfl ce_31 (E rfl rfl) (evsC (Eg rfl rfl id) evs0) (fun hg => small38 i.imm) (fun t S h => h) ?_
  refine Y1 (Yv.pickOr (t := .const (.bool true)) rfl (E rfl rfl) (Eg rfl rfl id)) ?_
  refine Y1 (Yv.assign rfl eV) ?_
  refine nl ?_
  refine AW.ret (retI (.tmp rfl .nil) ?_)
  show T.v (.bool _) = T.v (.bool _)
  rw [sizedF, if_neg (by omega), if_neg (by omega), if_neg (by omega)]

set_option maxHeartbeats 400000 in
theorem none48 (f has n : Int) (b : Nat) :
    ACalls Tryd.prog 37 [.v (.int .i64 has), .v (.int .i64 n), .v (.pointer (some ⟨b, 0, none⟩))] [.box b 3 [.v (.int .i64 f)]] (fun t_ S => t_ = .v (.bool (noneF f has n)) ∧ S = [.box b 3 [.v (.int .i64 f)]]) := by
  refine ACalls.intro Tryd.func37 rfl Tryd.ntmps37 (Nat.le_of_ble_eq_true rfl) rfl fun X w0 => ?_
  refine AW.rseq ?_
  refine Y1 (Yv.assign rfl eV) ?_
  refine nl ?_
  refine AW.rseq ?_
  refine Y1 (Yv.loadBox rfl ag_3 (i := 0) rfl (E rfl rfl) rfl) ?_
  refine Y1 (Yv.move rfl eV) ?_
  refine Y1 (Yv.bits rfl rfl (E rfl rfl) (E rfl rfl)) ?_
  refine Y1 (Yv.neq rfl eV eV) ?_
  refine Y1 (Yv.move rfl eV) ?_
  refine AWL.ygF rfl rfl rfl rfl (B rfl) (Yv.move rfl (E rfl rfl)) ?_
  refine AWL.ygF rfl rfl rfl rfl (B rfl) (Yv.eql rfl (Eg rfl rfl id) (E rfl rfl)) ?_
  refine Y1 (Yv.pickOr (t := .const (.bool true)) rfl (E rfl rfl) (Eg rfl rfl id)) ?_
  refine Y1 (Yv.assign rfl eV) ?_
  refine nl ?_
  refine AW.ret (retI (.tmp rfl .nil) ?_)
  exact ⟨rfl, rfl⟩

set_option maxHeartbeats 1000000 in
theorem valid27 (i : Ins) :
    ACalls Tryd.prog 12 [insT i] [] fun t_ S => t_ = .v (.bool (validF i)) := by
  refine ACalls.intro Tryd.func12 rfl Tryd.ntmps12 (Nat.le_of_ble_eq_true rfl) rfl fun X w0 => ?_
  refine AW.rseq ?_
  refine AWL.boxOp rfl rfl (B rfl) rfl (E rfl rfl) rfl (fun b1 => ?_)
  refine Y1 (Yv.assign rfl eV) ?_
  refine nl ?_
  refine AW.rseq ?_
  refine Y1 (Yv.fieldBox rfl fo_23_0 eV) ?_
  refine Y1 (Yv.loadBox rfl ag_3 (i := 0) rfl (E rfl rfl) rfl) ?_
  refine AWL.callT rfl rfl (B rfl) rfl ce_35 (E rfl rfl) (evsC (E rfl rfl) evs0) (fields46 i.kind) ?_
  rintro t9 S9 rfl
  refine Y1 (Yv.move rfl eV) ?_
  refine Y1 (Yv.extract rfl eV rfl) ?_
  refine Y1 (Yv.extract rfl eV rfl) ?_
  refine AWL.allocOp rfl rfl (B rfl) rfl zc_3 (fun b3 => ?_)
  refine AWL.storeBox (i := 1) rfl rfl rfl ag_3 rfl (E rfl rfl) (E rfl rfl) rfl rfl (Nat.le_of_ble_eq_true rfl) ?_
  refine Y1 (Yv.assign rfl eV) ?_
  refine nl ?_
  refine AW.seq ?_
  refine AW.rseq ?_
  refine Y1 (Yv.move rfl eV) ?_
  refine Y1 (Yv.not rfl eV) ?_
  refine Y1 (Yv.move rfl eV) ?_
  refine AWL.ygF rfl rfl rfl rfl (B rfl) (Yv.fieldBox rfl fo_23_1 (E rfl rfl)) ?_
  refine AWL.ygF rfl rfl rfl rfl (B rfl) (Yv.loadBox rfl ag_3 (i := 0) rfl (Eg rfl rfl id) rfl) ?_
  refine AWL.callPgF rfl rfl rfl rfl (B rfl) rfl ce_36 (E rfl rfl) (evsC (Eg rfl rfl id) (evsC (E rfl rfl) (evsC (E rfl rfl) evs0))) (fun hg => in47 i.d 0 15) (fun t S h => h) ?_
  refine AWL.ygF rfl rfl rfl rfl (B rfl) (Yv.not rfl (Eg rfl rfl id)) ?_
  refine Y1 (Yv.pickOr (t := .const (.bool true)) rfl (E rfl rfl) (Eg rfl rfl id)) ?_
  refine Y1 (Yv.move rfl eV) ?_
  refine AWL.ygF rfl rfl rfl rfl (B rfl) (Yv.fieldBox rfl fo_23_2 (E rfl rfl)) ?_
  refine AWL.ygF rfl rfl rfl rfl (B rfl) (Yv.loadBox rfl ag_3 (i := 0) rfl (Eg rfl rfl id) rfl) ?_
  refine AWL.callPgF rfl rfl rfl rfl (B rfl) rfl ce_36 (E rfl rfl) (evsC (Eg rfl rfl id) (evsC (E rfl rfl) (evsC (E rfl rfl) evs0))) (fun hg => in47 i.s 0 15) (fun t S h => h) ?_
  refine AWL.ygF rfl rfl rfl rfl (B rfl) (Yv.not rfl (Eg rfl rfl id)) ?_
  refine Y1 (Yv.pickOr (t := .const (.bool true)) rfl (E rfl rfl) (Eg rfl rfl id)) ?_
  refine Y1 (Yv.move rfl eV) ?_
  refine AWL.ygF rfl rfl rfl rfl (B rfl) (Yv.fieldBox rfl fo_23_3 (E rfl rfl)) ?_
  refine AWL.ygF rfl rfl rfl rfl (B rfl) (Yv.loadBox rfl ag_3 (i := 0) rfl (Eg rfl rfl id) rfl) ?_
  refine AWL.callPgF rfl rfl rfl rfl (B rfl) rfl ce_36 (E rfl rfl) (evsC (Eg rfl rfl id) (evsC (E rfl rfl) (evsC (E rfl rfl) evs0))) (fun hg => in47 i.cond 0 15) (fun t S h => h) ?_
  refine AWL.ygF rfl rfl rfl rfl (B rfl) (Yv.not rfl (Eg rfl rfl id)) ?_
  refine Y1 (Yv.pickOr (t := .const (.bool true)) rfl (E rfl rfl) (Eg rfl rfl id)) ?_
  refine nl ?_
  refine AW.cond rfl (fun h0t => ?_) (fun h0f => ?_)
  ·
   try replace h0t := of_decide_eq_true h0t
   refine AW.rseq ?_
   refine Y1 (Yv.assign rfl eV) ?_
   refine nl ?_
   refine AW.ret (retI (.tmp rfl .nil) ?_)
   show T.v (.bool _) = T.v (.bool _)
   rw [validF, if_pos (show bad0 i = true from h0t)]
  try replace h0f := of_decide_eq_false h0f
  refine AW.skip ?_
  refine AW.rseq ?_
  refine Y1 (Yv.makeFunc rfl evs0 rfl (evsC (E rfl rfl) evs0) rfl) ?_
  refine Y1 (Yv.assign rfl eV) ?_
  refine nl ?_
  refine AW.perm (S' := [.box b3 3 [.v (.int .i64 (fieldsF i.kind).1)], .box b1 23 (insCells i)]) (List.Perm.swap _ _ []) ?_
  refine AW.rseq ?_
  refine Y1 (Yv.move rfl eV) ?_
  refine Y1 (Yv.fieldBox rfl fo_23_1 eV) ?_
  refine Y1 (Yv.loadBox rfl ag_3 (i := 1) rfl (E rfl rfl) rfl) ?_
  refine AWL.callK rfl rfl (B rfl) rfl ce_37 (E rfl rfl) (evsC (E rfl rfl) (evsC (E rfl rfl) evs0)) (S1 := [.box b3 3 [.v (.int .i64 (fieldsF i.kind).1)]]) (S2 := _) rfl (none48 (fieldsF i.kind).1 1 i.d b3) (fun t S h => h) ?_
  refine Y1 (Yv.move rfl eV) ?_
  refine AWL.ygT rfl rfl rfl rfl (B rfl) (Yv.move rfl (E rfl rfl)) ?_
  refine AWL.ygT rfl rfl rfl rfl (B rfl) (Yv.fieldBox rfl fo_23_2 (E rfl rfl)) ?_
  refine AWL.ygT rfl rfl rfl rfl (B rfl) (Yv.loadBox rfl ag_3 (i := 1) rfl (Eg rfl rfl id) rfl) ?_
  refine AWL.callKgT rfl rfl rfl rfl (B rfl) rfl ce_37 (Eg rfl rfl id) (evsC (E rfl rfl) (evsC (Eg rfl rfl id) evs0)) (S1 := [.box b3 3 [.v (.int .i64 (fieldsF i.kind).1)]]) (S2 := _) rfl (fun hg => none48 (fieldsF i.kind).1 2 i.s b3) (fun t S h => h) ?_
  refine Y1 (Yv.pickAnd rfl (E rfl rfl) (Eg rfl rfl id)) ?_
  refine Y1 (Yv.move rfl eV) ?_
  refine AWL.ygT rfl rfl rfl rfl (B rfl) (Yv.move rfl (E rfl rfl)) ?_
  refine AWL.ygT rfl rfl rfl rfl (B rfl) (Yv.fieldBox rfl fo_23_5 (E rfl rfl)) ?_
  refine AWL.ygT rfl rfl rfl rfl (B rfl) (Yv.loadBox rfl ag_2 (i := 1) rfl (Eg rfl rfl id) rfl) ?_
  refine AWL.callKgT rfl rfl rfl rfl (B rfl) rfl ce_37 (Eg rfl rfl id) (evsC (E rfl rfl) (evsC (Eg rfl rfl id) evs0)) (S1 := [.box b3 3 [.v (.int .i64 (fieldsF i.kind).1)]]) (S2 := _) rfl (fun hg => none48 (fieldsF i.kind).1 4 i.imm b3) (fun t S h => h) ?_
  refine Y1 (Yv.pickAnd rfl (E rfl rfl) (Eg rfl rfl id)) ?_
  refine Y1 (Yv.move rfl eV) ?_
  refine AWL.ygT rfl rfl rfl rfl (B rfl) (Yv.move rfl (E rfl rfl)) ?_
  refine AWL.ygT rfl rfl rfl rfl (B rfl) (Yv.fieldBox rfl fo_23_3 (E rfl rfl)) ?_
  refine AWL.ygT rfl rfl rfl rfl (B rfl) (Yv.loadBox rfl ag_3 (i := 1) rfl (Eg rfl rfl id) rfl) ?_
  refine AWL.callKgT rfl rfl rfl rfl (B rfl) rfl ce_37 (Eg rfl rfl id) (evsC (E rfl rfl) (evsC (Eg rfl rfl id) evs0)) (S1 := [.box b3 3 [.v (.int .i64 (fieldsF i.kind).1)]]) (S2 := _) rfl (fun hg => none48 (fieldsF i.kind).1 8 i.cond b3) (fun t S h => h) ?_
  refine Y1 (Yv.pickAnd rfl (E rfl rfl) (Eg rfl rfl id)) ?_
  refine Y1 (Yv.move rfl eV) ?_
  refine AWL.ygT rfl rfl rfl rfl (B rfl) (Yv.move rfl (E rfl rfl)) ?_
  refine AWL.ygT rfl rfl rfl rfl (B rfl) (Yv.fieldBox rfl fo_23_4 (E rfl rfl)) ?_
  refine AWL.ygT rfl rfl rfl rfl (B rfl) (Yv.loadBox rfl ag_3 (i := 1) rfl (Eg rfl rfl id) rfl) ?_
  refine AWL.callKgT rfl rfl rfl rfl (B rfl) rfl ce_37 (Eg rfl rfl id) (evsC (E rfl rfl) (evsC (Eg rfl rfl id) evs0)) (S1 := [.box b3 3 [.v (.int .i64 (fieldsF i.kind).1)]]) (S2 := _) rfl (fun hg => none48 (fieldsF i.kind).1 16 i.size b3) (fun t S h => h) ?_
  refine Y1 (Yv.pickAnd rfl (E rfl rfl) (Eg rfl rfl id)) ?_
  refine Y1 (Yv.move rfl eV) ?_
  refine AWL.ygT rfl rfl rfl rfl (B rfl) (Yv.loadBoxA rfl ag_23 (i := 1) rfl (E rfl rfl) rfl rfl) ?_
  refine AWL.callPgT rfl rfl rfl rfl (B rfl) rfl ce_38 (E rfl rfl) (evsC (Eg rfl rfl id) evs0) (fun hg => sized49 i) (fun t S h => h) ?_
  refine Y1 (Yv.pickAnd rfl (E rfl rfl) (Eg rfl rfl id)) ?_
  refine Y1 (Yv.assign rfl eV) ?_
  refine nl ?_
  refine AW.ret (retI (.tmp rfl .nil) ?_)
  show T.v (.bool _) = T.v (.bool _)
  rw [validF, if_neg (by rw [show bad0 i = false from h0f]; decide)]

set_option maxHeartbeats 2000000 in
theorem opcode33 (k : Int) :
    ACalls Tryd.prog 26 [.v (.int .i64 k)] [] fun t_ S => t_ = .tup [.v (.int .i64 (opF k).1), .v (.int .i64 (opF k).2)] := by
  refine ACalls.intro Tryd.func26 rfl Tryd.ntmps26 (Nat.le_of_ble_eq_true rfl) rfl fun X w0 => ?_
  refine AW.rseq ?_
  refine Y1 (Yv.assign rfl eV) ?_
  refine Y1 (Yv.assign rfl eV) ?_
  refine nl ?_
  refine AW.seq ?_
  refine AW.rseq ?_
  refine Y1 (Yv.move rfl eV) ?_
  refine nl ?_
  refine AW.block ?_
  refine AW.rseq ?_
  refine Y1 (Yv.eql rfl eV eV) ?_
  refine Y1 (Yv.assign rfl eV) ?_
  refine nl ?_
  refine AW.cond rfl (fun h0t => ?_) (fun h0f => ?_)
  ·
   try replace h0t := of_decide_eq_true h0t
   refine AW.rseq ?_
   refine Y1 (Yv.assign rfl eV) ?_
   refine Y1 (Yv.assign rfl eV) ?_
   refine nl ?_
   refine AW.ret (retI (.tmp rfl (.tmp rfl .nil)) ?_)
   rw [h0t]; rfl
  try replace h0f := of_decide_eq_false h0f
  refine AW.rseq ?_
  refine Y1 (Yv.eql rfl eV eV) ?_
  refine Y1 (Yv.assign rfl eV) ?_
  refine nl ?_
  refine AW.cond rfl (fun h1t => ?_) (fun h1f => ?_)
  ·
   try replace h1t := of_decide_eq_true h1t
   refine AW.rseq ?_
   refine Y1 (Yv.assign rfl eV) ?_
   refine Y1 (Yv.assign rfl eV) ?_
   refine nl ?_
   refine AW.ret (retI (.tmp rfl (.tmp rfl .nil)) ?_)
   rw [h1t]; rfl
  try replace h1f := of_decide_eq_false h1f
  refine AW.rseq ?_
  refine Y1 (Yv.eql rfl eV eV) ?_
  refine Y1 (Yv.assign rfl eV) ?_
  refine nl ?_
  refine AW.cond rfl (fun h2t => ?_) (fun h2f => ?_)
  ·
   try replace h2t := of_decide_eq_true h2t
   refine AW.rseq ?_
   refine Y1 (Yv.assign rfl eV) ?_
   refine Y1 (Yv.assign rfl eV) ?_
   refine nl ?_
   refine AW.ret (retI (.tmp rfl (.tmp rfl .nil)) ?_)
   rw [h2t]; rfl
  try replace h2f := of_decide_eq_false h2f
  refine AW.rseq ?_
  refine Y1 (Yv.eql rfl eV eV) ?_
  refine Y1 (Yv.assign rfl eV) ?_
  refine nl ?_
  refine AW.cond rfl (fun h3t => ?_) (fun h3f => ?_)
  ·
   try replace h3t := of_decide_eq_true h3t
   refine AW.rseq ?_
   refine Y1 (Yv.assign rfl eV) ?_
   refine Y1 (Yv.assign rfl eV) ?_
   refine nl ?_
   refine AW.ret (retI (.tmp rfl (.tmp rfl .nil)) ?_)
   rw [h3t]; rfl
  try replace h3f := of_decide_eq_false h3f
  refine AW.rseq ?_
  refine Y1 (Yv.eql rfl eV eV) ?_
  refine Y1 (Yv.assign rfl eV) ?_
  refine nl ?_
  refine AW.cond rfl (fun h4t => ?_) (fun h4f => ?_)
  ·
   try replace h4t := of_decide_eq_true h4t
   refine AW.rseq ?_
   refine Y1 (Yv.assign rfl eV) ?_
   refine Y1 (Yv.assign rfl eV) ?_
   refine nl ?_
   refine AW.ret (retI (.tmp rfl (.tmp rfl .nil)) ?_)
   rw [h4t]; rfl
  try replace h4f := of_decide_eq_false h4f
  refine AW.rseq ?_
  refine Y1 (Yv.eql rfl eV eV) ?_
  refine Y1 (Yv.assign rfl eV) ?_
  refine nl ?_
  refine AW.cond rfl (fun h5t => ?_) (fun h5f => ?_)
  ·
   try replace h5t := of_decide_eq_true h5t
   refine AW.rseq ?_
   refine Y1 (Yv.assign rfl eV) ?_
   refine Y1 (Yv.assign rfl eV) ?_
   refine nl ?_
   refine AW.ret (retI (.tmp rfl (.tmp rfl .nil)) ?_)
   rw [h5t]; rfl
  try replace h5f := of_decide_eq_false h5f
  refine AW.rseq ?_
  refine Y1 (Yv.eql rfl eV eV) ?_
  refine Y1 (Yv.assign rfl eV) ?_
  refine nl ?_
  refine AW.cond rfl (fun h6t => ?_) (fun h6f => ?_)
  ·
   try replace h6t := of_decide_eq_true h6t
   refine AW.rseq ?_
   refine Y1 (Yv.assign rfl eV) ?_
   refine Y1 (Yv.assign rfl eV) ?_
   refine nl ?_
   refine AW.ret (retI (.tmp rfl (.tmp rfl .nil)) ?_)
   rw [h6t]; rfl
  try replace h6f := of_decide_eq_false h6f
  refine AW.rseq ?_
  refine Y1 (Yv.eql rfl eV eV) ?_
  refine Y1 (Yv.assign rfl eV) ?_
  refine nl ?_
  refine AW.cond rfl (fun h7t => ?_) (fun h7f => ?_)
  ·
   try replace h7t := of_decide_eq_true h7t
   refine AW.rseq ?_
   refine Y1 (Yv.assign rfl eV) ?_
   refine Y1 (Yv.assign rfl eV) ?_
   refine nl ?_
   refine AW.ret (retI (.tmp rfl (.tmp rfl .nil)) ?_)
   rw [h7t]; rfl
  try replace h7f := of_decide_eq_false h7f
  refine AW.rseq ?_
  refine Y1 (Yv.eql rfl eV eV) ?_
  refine Y1 (Yv.assign rfl eV) ?_
  refine nl ?_
  refine AW.cond rfl (fun h8t => ?_) (fun h8f => ?_)
  ·
   try replace h8t := of_decide_eq_true h8t
   refine AW.rseq ?_
   refine Y1 (Yv.assign rfl eV) ?_
   refine Y1 (Yv.assign rfl eV) ?_
   refine nl ?_
   refine AW.ret (retI (.tmp rfl (.tmp rfl .nil)) ?_)
   rw [h8t]; rfl
  try replace h8f := of_decide_eq_false h8f
  refine AW.rseq ?_
  refine Y1 (Yv.eql rfl eV eV) ?_
  refine Y1 (Yv.assign rfl eV) ?_
  refine nl ?_
  refine AW.cond rfl (fun h9t => ?_) (fun h9f => ?_)
  ·
   try replace h9t := of_decide_eq_true h9t
   refine AW.rseq ?_
   refine Y1 (Yv.assign rfl eV) ?_
   refine Y1 (Yv.assign rfl eV) ?_
   refine nl ?_
   refine AW.ret (retI (.tmp rfl (.tmp rfl .nil)) ?_)
   rw [h9t]; rfl
  try replace h9f := of_decide_eq_false h9f
  refine AW.rseq ?_
  refine Y1 (Yv.eql rfl eV eV) ?_
  refine Y1 (Yv.assign rfl eV) ?_
  refine nl ?_
  refine AW.cond rfl (fun h10t => ?_) (fun h10f => ?_)
  ·
   try replace h10t := of_decide_eq_true h10t
   refine AW.rseq ?_
   refine Y1 (Yv.assign rfl eV) ?_
   refine Y1 (Yv.assign rfl eV) ?_
   refine nl ?_
   refine AW.ret (retI (.tmp rfl (.tmp rfl .nil)) ?_)
   rw [h10t]; rfl
  try replace h10f := of_decide_eq_false h10f
  refine AW.rseq ?_
  refine Y1 (Yv.eql rfl eV eV) ?_
  refine Y1 (Yv.assign rfl eV) ?_
  refine nl ?_
  refine AW.cond rfl (fun h11t => ?_) (fun h11f => ?_)
  ·
   try replace h11t := of_decide_eq_true h11t
   refine AW.rseq ?_
   refine Y1 (Yv.assign rfl eV) ?_
   refine Y1 (Yv.assign rfl eV) ?_
   refine nl ?_
   refine AW.ret (retI (.tmp rfl (.tmp rfl .nil)) ?_)
   rw [h11t]; rfl
  try replace h11f := of_decide_eq_false h11f
  refine AW.rseq ?_
  refine Y1 (Yv.eql rfl eV eV) ?_
  refine Y1 (Yv.assign rfl eV) ?_
  refine nl ?_
  refine AW.cond rfl (fun h12t => ?_) (fun h12f => ?_)
  ·
   try replace h12t := of_decide_eq_true h12t
   refine AW.rseq ?_
   refine Y1 (Yv.assign rfl eV) ?_
   refine Y1 (Yv.assign rfl eV) ?_
   refine nl ?_
   refine AW.ret (retI (.tmp rfl (.tmp rfl .nil)) ?_)
   rw [h12t]; rfl
  try replace h12f := of_decide_eq_false h12f
  refine AW.rseq ?_
  refine Y1 (Yv.eql rfl eV eV) ?_
  refine Y1 (Yv.assign rfl eV) ?_
  refine nl ?_
  refine AW.cond rfl (fun h13t => ?_) (fun h13f => ?_)
  ·
   try replace h13t := of_decide_eq_true h13t
   refine AW.rseq ?_
   refine Y1 (Yv.assign rfl eV) ?_
   refine Y1 (Yv.assign rfl eV) ?_
   refine nl ?_
   refine AW.ret (retI (.tmp rfl (.tmp rfl .nil)) ?_)
   rw [h13t]; rfl
  try replace h13f := of_decide_eq_false h13f
  refine AW.rseq ?_
  refine Y1 (Yv.eql rfl eV eV) ?_
  refine Y1 (Yv.assign rfl eV) ?_
  refine nl ?_
  refine AW.cond rfl (fun h14t => ?_) (fun h14f => ?_)
  ·
   try replace h14t := of_decide_eq_true h14t
   refine AW.rseq ?_
   refine Y1 (Yv.assign rfl eV) ?_
   refine Y1 (Yv.assign rfl eV) ?_
   refine nl ?_
   refine AW.ret (retI (.tmp rfl (.tmp rfl .nil)) ?_)
   rw [h14t]; rfl
  try replace h14f := of_decide_eq_false h14f
  refine AW.rseq ?_
  refine Y1 (Yv.eql rfl eV eV) ?_
  refine Y1 (Yv.assign rfl eV) ?_
  refine nl ?_
  refine AW.cond rfl (fun h15t => ?_) (fun h15f => ?_)
  ·
   try replace h15t := of_decide_eq_true h15t
   refine AW.rseq ?_
   refine Y1 (Yv.assign rfl eV) ?_
   refine Y1 (Yv.assign rfl eV) ?_
   refine nl ?_
   refine AW.ret (retI (.tmp rfl (.tmp rfl .nil)) ?_)
   rw [h15t]; rfl
  try replace h15f := of_decide_eq_false h15f
  refine AW.rseq ?_
  refine Y1 (Yv.eql rfl eV eV) ?_
  refine Y1 (Yv.assign rfl eV) ?_
  refine nl ?_
  refine AW.cond rfl (fun h16t => ?_) (fun h16f => ?_)
  ·
   try replace h16t := of_decide_eq_true h16t
   refine AW.rseq ?_
   refine Y1 (Yv.assign rfl eV) ?_
   refine Y1 (Yv.assign rfl eV) ?_
   refine nl ?_
   refine AW.ret (retI (.tmp rfl (.tmp rfl .nil)) ?_)
   rw [h16t]; rfl
  try replace h16f := of_decide_eq_false h16f
  refine AW.rseq ?_
  refine Y1 (Yv.eql rfl eV eV) ?_
  refine Y1 (Yv.assign rfl eV) ?_
  refine nl ?_
  refine AW.cond rfl (fun h17t => ?_) (fun h17f => ?_)
  ·
   try replace h17t := of_decide_eq_true h17t
   refine AW.rseq ?_
   refine Y1 (Yv.assign rfl eV) ?_
   refine Y1 (Yv.assign rfl eV) ?_
   refine nl ?_
   refine AW.ret (retI (.tmp rfl (.tmp rfl .nil)) ?_)
   rw [h17t]; rfl
  try replace h17f := of_decide_eq_false h17f
  refine AW.rseq ?_
  refine Y1 (Yv.eql rfl eV eV) ?_
  refine Y1 (Yv.assign rfl eV) ?_
  refine nl ?_
  refine AW.cond rfl (fun h18t => ?_) (fun h18f => ?_)
  ·
   try replace h18t := of_decide_eq_true h18t
   refine AW.rseq ?_
   refine Y1 (Yv.assign rfl eV) ?_
   refine Y1 (Yv.assign rfl eV) ?_
   refine nl ?_
   refine AW.ret (retI (.tmp rfl (.tmp rfl .nil)) ?_)
   rw [h18t]; rfl
  try replace h18f := of_decide_eq_false h18f
  refine AW.rseq ?_
  refine Y1 (Yv.eql rfl eV eV) ?_
  refine Y1 (Yv.assign rfl eV) ?_
  refine nl ?_
  refine AW.cond rfl (fun h19t => ?_) (fun h19f => ?_)
  ·
   try replace h19t := of_decide_eq_true h19t
   refine AW.rseq ?_
   refine Y1 (Yv.assign rfl eV) ?_
   refine Y1 (Yv.assign rfl eV) ?_
   refine nl ?_
   refine AW.ret (retI (.tmp rfl (.tmp rfl .nil)) ?_)
   rw [h19t]; rfl
  try replace h19f := of_decide_eq_false h19f
  refine AW.rseq ?_
  refine Y1 (Yv.eql rfl eV eV) ?_
  refine Y1 (Yv.assign rfl eV) ?_
  refine nl ?_
  refine AW.cond rfl (fun h20t => ?_) (fun h20f => ?_)
  ·
   try replace h20t := of_decide_eq_true h20t
   refine AW.rseq ?_
   refine Y1 (Yv.assign rfl eV) ?_
   refine Y1 (Yv.assign rfl eV) ?_
   refine nl ?_
   refine AW.ret (retI (.tmp rfl (.tmp rfl .nil)) ?_)
   rw [h20t]; rfl
  try replace h20f := of_decide_eq_false h20f
  refine AW.rseq ?_
  refine Y1 (Yv.eql rfl eV eV) ?_
  refine Y1 (Yv.assign rfl eV) ?_
  refine nl ?_
  refine AW.cond rfl (fun h21t => ?_) (fun h21f => ?_)
  ·
   try replace h21t := of_decide_eq_true h21t
   refine AW.rseq ?_
   refine Y1 (Yv.assign rfl eV) ?_
   refine Y1 (Yv.assign rfl eV) ?_
   refine nl ?_
   refine AW.ret (retI (.tmp rfl (.tmp rfl .nil)) ?_)
   rw [h21t]; rfl
  try replace h21f := of_decide_eq_false h21f
  refine AW.rseq ?_
  refine Y1 (Yv.eql rfl eV eV) ?_
  refine Y1 (Yv.assign rfl eV) ?_
  refine nl ?_
  refine AW.cond rfl (fun h22t => ?_) (fun h22f => ?_)
  ·
   try replace h22t := of_decide_eq_true h22t
   refine AW.rseq ?_
   refine Y1 (Yv.assign rfl eV) ?_
   refine Y1 (Yv.assign rfl eV) ?_
   refine nl ?_
   refine AW.ret (retI (.tmp rfl (.tmp rfl .nil)) ?_)
   rw [h22t]; rfl
  try replace h22f := of_decide_eq_false h22f
  refine AW.rseq ?_
  refine Y1 (Yv.eql rfl eV eV) ?_
  refine Y1 (Yv.assign rfl eV) ?_
  refine nl ?_
  refine AW.cond rfl (fun h23t => ?_) (fun h23f => ?_)
  ·
   try replace h23t := of_decide_eq_true h23t
   refine AW.rseq ?_
   refine Y1 (Yv.assign rfl eV) ?_
   refine Y1 (Yv.assign rfl eV) ?_
   refine nl ?_
   refine AW.ret (retI (.tmp rfl (.tmp rfl .nil)) ?_)
   rw [h23t]; rfl
  try replace h23f := of_decide_eq_false h23f
  refine AW.rseq ?_
  refine Y1 (Yv.eql rfl eV eV) ?_
  refine Y1 (Yv.assign rfl eV) ?_
  refine nl ?_
  refine AW.cond rfl (fun h24t => ?_) (fun h24f => ?_)
  ·
   try replace h24t := of_decide_eq_true h24t
   refine AW.rseq ?_
   refine Y1 (Yv.assign rfl eV) ?_
   refine Y1 (Yv.assign rfl eV) ?_
   refine nl ?_
   refine AW.ret (retI (.tmp rfl (.tmp rfl .nil)) ?_)
   rw [h24t]; rfl
  try replace h24f := of_decide_eq_false h24f
  refine AW.rseq ?_
  refine Y1 (Yv.eql rfl eV eV) ?_
  refine Y1 (Yv.assign rfl eV) ?_
  refine nl ?_
  refine AW.cond rfl (fun h25t => ?_) (fun h25f => ?_)
  ·
   try replace h25t := of_decide_eq_true h25t
   refine AW.rseq ?_
   refine Y1 (Yv.assign rfl eV) ?_
   refine Y1 (Yv.assign rfl eV) ?_
   refine nl ?_
   refine AW.ret (retI (.tmp rfl (.tmp rfl .nil)) ?_)
   rw [h25t]; rfl
  try replace h25f := of_decide_eq_false h25f
  refine AW.rseq ?_
  refine Y1 (Yv.eql rfl eV eV) ?_
  refine Y1 (Yv.assign rfl eV) ?_
  refine nl ?_
  refine AW.cond rfl (fun h26t => ?_) (fun h26f => ?_)
  ·
   try replace h26t := of_decide_eq_true h26t
   refine AW.rseq ?_
   refine Y1 (Yv.assign rfl eV) ?_
   refine Y1 (Yv.assign rfl eV) ?_
   refine nl ?_
   refine AW.ret (retI (.tmp rfl (.tmp rfl .nil)) ?_)
   rw [h26t]; rfl
  try replace h26f := of_decide_eq_false h26f
  refine AW.skip ?_
  refine AW.rseq ?_
  refine Y1 (Yv.assign rfl eV) ?_
  refine Y1 (Yv.assign rfl eV) ?_
  refine nl ?_
  refine AW.ret (retI (.tmp rfl (.tmp rfl .nil)) ?_)
  rw [op_out (by omega)]; rfl

end Go.Proofs.YtjndpakhmgapjaaDoor

namespace Go.Proofs.YtjndpakhmgapjaaDoor
open Go Go.RowKit
set_option linter.unusedVariables false
set_option linter.unusedSectionVars false
section
variable {cx : Cx} {env : Env} {S : St} {o : Oper} {x : Operand}
/-- A struct that lies whole in a box. -/
theorem heldLoadA {b p n : Nat} {t : TypeId} {us vs : List Value} {l' : List T} (ho : o.op = .load t x) (h : aggSize cx.P t = some (true, n)) (hx : Ev env true x (.v (.pointer (some ⟨b, p, none⟩)))) (hv : (us.drop p).take n = vs) (hn : vs.length = n) (h1 : vs.all (fun u => u.oneCell') = true) (hl : vs.map T.v = l') :
    ∀ a w, Sim cx env S a w → ∃ u', VRep w (cx.X ++ M S) (.agg l') u' ∧ ∀ w', HeldBox b us w' → (execOp a.eval o).run cx.P w' = .ok (.value u') w' := by
  intro a w hs
  have hvx := hx.val hs rfl
  have hV := vreps_vals (w := w) (L := cx.X ++ M S) vs (fun u hu => List.all_eq_true.1 h1 u hu)
  rw [hl] at hV
  refine ⟨.agg vs.toArray, .agg hV.len hV.at_ hV.one, fun w' hd => exec_load ho w' ?_⟩
  obtain ⟨ty, hh⟩ := hd
  rw [hvx]
  refine run_loadAt_agg h hn w' (fun j v hj => ?_)
  rw [← hv, List.getElem?_take] at hj
  split at hj
  · rw [List.getElem?_drop] at hj
    rw [add_lit', cell_of_heap hh, hj]
  · cases hj
end

set_option linter.unusedVariables false
set_option linter.unusedSectionVars false
section
variable {cx : Cx} {env : Env} {S : St} {o : Oper} {x y : Operand}
end

set_option linter.unusedVariables false
set_option linter.unusedSectionVars false
set_option linter.unusedSimpArgs false
section
variable {cx : Cx} {env : Env} {S : St} {o : Oper} {g : Bool} {x y : Operand}
inductive FK2 where
  | c (k : FK)
  | st (n : Nat) (l : List (Nat × FK))
end
end Go.Proofs.YtjndpakhmgapjaaDoor

namespace Go.Proofs.YtjndpakhmgapjaaDoor
open Go Go.RowKit
set_option linter.unusedVariables false
set_option linter.unusedSectionVars false
set_option linter.unusedSimpArgs false
section
variable {cx : Cx} {env : Env} {S : St} {o : Oper} {x y : Operand}
theorem freeBits {op : BinOp} {ty yt : TypeId} {k : IntKind} {p q : Int} (ho : o.op = .binOp op ty x y yt) (hop : isBits op = true) (hx : Ev env true x (.v (.int k p))) (hy : Ev env true y (.v (.int k q))) : ∀ a w, Sim cx env S a w → ∃ u, VRep w (cx.X ++ M S) (.v (.int k (bitsOf op k p q))) u ∧ ∀ w', (execOp a.eval o).run cx.P w' = .ok (.value u) w' :=
  fun a w hs => ⟨_, .v _, fun w' => by
    rw [exec_binOp_int ho (hx.val hs rfl) (hy.val hs rfl)]
    cases op <;> first | (cases hop; done) | simp [binOp, Op.intBits, Sem.run_pure, bitsOf]⟩
theorem freeShrC {ty yt : TypeId} {k k' : IntKind} {p q : Int} (D : Int) (hD : (2 : Int) ^ (min q.toNat k.bits) = D) (h0 : 0 ≤ D) (hq : 0 ≤ q) (ho : o.op = .binOp .shr ty x y yt) (hx : Ev env true x (.v (.int k p))) (hy : Ev env true y (.v (.int k' q))) : ∀ a w, Sim cx env S a w → ∃ u, VRep w (cx.X ++ M S) (.v (.int k (p / D))) u ∧ ∀ w', (execOp a.eval o).run cx.P w' = .ok (.value u) w' :=
  fun a w hs => ⟨_, .v _, fun w' => by
    rw [exec_binOp_int ho (hx.val hs rfl) (hy.val hs rfl)]
    have e : p / D = shrOf k p q := by unfold shrOf; rw [hD, Int.fdiv_eq_ediv_of_nonneg p h0]
    rw [e]
    simp [binOp, Op.shift, Sem.run_pure, show ¬ q < 0 by omega, shrOf]⟩
theorem freeAndN_i64 {ty yt : TypeId} {p q : Int} (n : Nat) (D : Nat) (hD : 2 ^ n = D) (hDk : D ≤ 18446744073709551616) (hq : q = ((D - 1 : Nat) : Int)) (ho : o.op = .binOp .and ty x y yt) (hx : Ev env true x (.v (.int .i64 p))) (hy : Ev env true y (.v (.int .i64 q))) (hb : 0 ≤ p ∧ p ≤ 9223372036854775807) : ∀ a w, Sim cx env S a w → ∃ u, VRep w (cx.X ++ M S) (.v (.int .i64 (p % (D : Int)))) u ∧ ∀ w', (execOp a.eval o).run cx.P w' = .ok (.value u) w' := by
  intro a w hs
  obtain ⟨h0, h1⟩ := hb
  have h := freeBits (cx := cx) ho rfl hx hy a w hs
  obtain ⟨p, rfl⟩ := Int.eq_ofNat_of_zero_le h0
  have hB : (2 : Nat) ^ IntKind.i64.bits = 18446744073709551616 := by decide
  have hm : p % D ≤ p := Nat.mod_le p D
  have e := bits_and_mod (k := .i64) p hD (hB ▸ hDk) (by rw [hB]; omega) (IntWalk.i64_in _ ⟨by omega, by omega⟩)
  rw [hq, e, Int.natCast_emod] at h
  exact h
end
end Go.Proofs.YtjndpakhmgapjaaDoor

namespace Go.Proofs.YtjndpakhmgapjaaDoor
open Go Go.RowKit
set_option linter.unusedVariables false
set_option linter.unusedSectionVars false
set_option linter.unusedSimpArgs false
/-- A block and its cells. -/
structure Gv where
  b : Nat
  cs : Array Value
def Gv.is (G : Gv) (w : World) : Prop := ∃ (ty : TypeId) (fr : Nat × Nat), w.heap[G.b]? = some (.cells G.cs ty fr)
theorem Gv.is.lt {G : Gv} {w : World} (h : G.is w) : G.b < w.heap.size := by
  obtain ⟨ty, fr, e⟩ := h
  exact lt_of_heap e
theorem Gv.is.keeps {G : Gv} {L : List Nat} {w w' : World} (h : G.is w) (hk : Keeps L w w') (hm : G.b ∉ L) : G.is w' := by
  have hl := h.lt
  obtain ⟨ty, fr, e⟩ := h
  exact ⟨ty, fr, (hk.block _ hl hm).trans e⟩
/-- WHAT A CALL DOES where the variable stands so. -/
def ACallsG (P : Program) (G : Gv) (f : FuncId) (ts : List T) (S0 : St) (R : T → St → Prop) : Prop :=
  ∀ (X : List Nat) (w : World) (args : List Value), G.is w → G.b ∉ M S0 → (∀ b ∈ X, b < w.heap.size ∧ b ∉ M S0) → (M S0).Nodup → (∀ e ∈ S0, e.holds w (X ++ M S0)) → args.length = ts.length → (∀ (j : Nat) (t : T) (u : Value), ts[j]? = some t → args[j]? = some u → VRep w (X ++ M S0) t u) →
    Calls P f args.toArray w fun e w' => ∃ v t S', e = .returned v ∧ Keeps (M S0) w w' ∧ (M S').Nodup ∧ (∀ b ∈ M S', b ∈ M S0 ∨ w.heap.size ≤ b) ∧ (∀ e ∈ S', e.holds w' (X ++ M S')) ∧ VRep w' (X ++ M S') t v ∧ R t S'
theorem ACallsG.mono {P : Program} {G : Gv} {f : FuncId} {ts : List T} {S0 : St} {R R' : T → St → Prop} (h : ACallsG P G f ts S0 R) (hR : ∀ t S, R t S → R' t S) : ACallsG P G f ts S0 R' :=
  fun X w args g1 g2 h1 h2 h3 h4 h5 => (h X w args g1 g2 h1 h2 h3 h4 h5).mono fun e w' ⟨v, t, S', a, b, c, d, e, f, r⟩ => ⟨v, t, S', a, b, c, d, e, f, hR _ _ r⟩
theorem ACallsG.calls {P : Program} {G : Gv} {f : FuncId} {ts : List T} {R : T → St → Prop} (h : ACallsG P G f ts [] R) {w : World} {args : List Value} (hG : G.is w) (hl : args.length = ts.length) (ha : ∀ (j : Nat) (t : T) (u : Value), ts[j]? = some t → args[j]? = some u → VRep w [] t u) :
    Calls P f args.toArray w fun e w' => ∃ v t S', e = .returned v ∧ Below w.heap.size w w' ∧ VRep w' (M S') t v ∧ R t S' :=
  (h [] w args hG (by simp [M]) (fun _ hb => by cases hb) (by simp [M]) (fun _ he => by cases he) hl (by simpa [M] using ha)).mono fun e w' ⟨v, t, S', a, b, c, d, e', f, r⟩ => ⟨v, t, S', a, b.below, by simpa using f, r⟩
theorem ACallsG.intro {P : Program} {G : Gv} {f : FuncId} {fn : Func} {c : Code} {ts : List T} {S0 : St} {R : T → St → Prop} {N : Nat} {rs : List ResultVar} (hf : P.funcs[f]? = some fn) (hb : fn.body = some c) (hN : fn.ntmps = N) (hlen : ts.length ≤ N) (hrs : fn.results.toList = rs)
    (h : ∀ (X : List Nat) (w0 : World), G.is w0 ∧ G.b ∉ M S0 → AW ⟨P, X, M S0, w0, N, []⟩ c (retQ P rs R) (initEnv 0 ts) S0) : ACallsG P G f ts S0 R := by
  intro X w args g1 g2 h1 h2 h3 h4 h5
  refine calls_of_wp hf hb ?_
  have hs : Sim ⟨P, X, M S0, w, N, []⟩ (initEnv 0 ts) S0 { tmps := args.toArray ++ Array.replicate (fn.ntmps - args.toArray.size) undef, defers := [] } w := by
    refine ⟨Keeps.refl _ _, h2, fun b hb => .inl hb, h1, h3, ?_, rfl, fun k c t hk => ?_⟩
    · simp [hN]; omega
    · obtain ⟨rfl, -, e⟩ := get_initEnv ts 0 k c t hk
      refine ⟨fun _ => ?_, fun h => by cases h⟩
      rw [Nat.sub_zero] at e
      have hkl : k < args.length := h4 ▸ (List.getElem?_eq_some_iff.1 e).1
      have : (args.toArray ++ Array.replicate (fn.ntmps - args.toArray.size) undef).getD k undef = args[k] := by
        rw [Array.getD_eq_getD_getElem?, Array.getElem?_append_left (by simpa using hkl)]
        simp [hkl]
      rw [this]
      exact h5 k t _ e (List.getElem?_eq_getElem hkl)
  refine Code.wp_mono (fun e a w' hq => ?_) (h X w ⟨g1, g2⟩ _ _ hs)
  obtain ⟨env', S', hs', he, l, hl, hR⟩ := hq
  subst hrs
  obtain ⟨us, e1, e2, e3⟩ := Res.vals (cx := ⟨P, X, M S0, w, N, []⟩) hs' hl
  have hrun := results_list e3
  have hv : VRep w' (X ++ M S') (tupOf l) (tupV us) := by
    match l, us, e1, e2 with
    | [], [], _, e2 => exact .tup rfl e2
    | [t], [u], _, e2 => exact e2 0 t u rfl rfl
    | t :: t' :: r, u :: u' :: r', e1, e2 => exact .tup (by simpa using e1) e2
  have hR' : ∃ v t S'', (Ending.returned (tupV us)) = .returned v ∧ Keeps (M S0) w w' ∧ (M S'').Nodup ∧ (∀ b ∈ M S'', b ∈ M S0 ∨ w.heap.size ≤ b) ∧ (∀ e ∈ S'', e.holds w' (X ++ M S'')) ∧ VRep w' (X ++ M S'') t v ∧ R t S'' :=
    ⟨_, _, S', rfl, hs'.keeps, hs'.nd, hs'.fresh, hs'.ents, hv, hR⟩
  rcases he with rfl | rfl
  · exact ⟨hs'.defers, _, hrun, hR'⟩
  · exact ⟨hs'.defers, _, hrun, hR'⟩
section
variable {cx : Cx} {env : Env} {S : St} {o : Oper} {ops : Array Oper} {l : List Oper} {K : Env → St → Prop} {d : Nat}
end
end Go.Proofs.YtjndpakhmgapjaaDoor

namespace Go.Proofs.YtjndpakhmgapjaaDoor
open Go Go.RowKit
set_option linter.unusedVariables false
set_option linter.unusedSectionVars false
set_option linter.unusedSimpArgs false
theorem zeroCells_1 (z : Value) (n : Nat) : (Builtin.zeroCells #[z] n).toList = List.replicate n z := by
  apply List.ext_getElem?
  intro i
  simp only [Builtin.zeroCells, Array.toList_map, Array.toList_range, List.size_toArray, List.length_singleton, Nat.mul_one, List.getElem?_map, List.getElem?_replicate]
  rcases Nat.lt_or_ge i n with h | h
  · rw [List.getElem?_range h, if_pos h]
    simp [Nat.mod_one]
  · rw [List.getElem?_eq_none (by simp; omega), if_neg (by omega)]; rfl
theorem run_append_full {P : Program} {w : World} {t tx ty e : TypeId} {b n m : Nat} {z0 : Value} {us zs news : List Value} {A : Option Addr} {v : Value} (he : elemOf P t = some (e, 1, b, [z0])) (hn : us.length = n) (hrow : RowIs w e 1 A (n + zs.length) (n + zs.length) (us ++ zs)) (hs : Src P 1 tx v m news w) (h63 : n + m ≤ maxLen) (hb : (n + m) * b ≤ 140737488355328) :
    ∃ A' zs' w', (Builtin.append_ #[t, tx] ty #[.slice A n (n + zs.length), v]).run P w = .ok (.slice A' (n + m) (n + m + zs'.length)) w' ∧ RowIs w' e 1 A' (n + m + zs'.length) (n + m + zs'.length) (us ++ news ++ zs') ∧ (zs' = zs.drop m ∨ zs' = List.replicate zs'.length z0) ∧ (∀ g, A'.map (·.block) = some g → A.map (·.block) = some g ∨ g = w.heap.size) ∧
      (∀ g, g < w.heap.size → A.map (·.block) ≠ some g → w'.heap[g]? = w.heap[g]?) ∧ w.heap.size ≤ w'.heap.size ∧ w'.os = w.os ∧ w'.tape = w.tape ∧ w'.output = w.output := by
  obtain ⟨h1, i, z, h2, h3, hsz1, rfl, h6, h7, h8⟩ := elemOf_spec he
  have hs' : Src P i.size tx v m news w := by rw [hsz1]; exact hs
  have hnl : news.length = m := by have := hs.newsLen; omega
  obtain ⟨r1, r2, r3, r4⟩ := hrow
  by_cases hroom : m ≤ zs.length
  · rcases r4 with ⟨rfl, hn0, hc0⟩ | ⟨gb, cur, fr, rfl, hh, hfr, hsz, htk⟩
    · obtain rfl : m = 0 := by omega
      obtain rfl : us = [] := List.eq_nil_of_length_eq_zero (by omega)
      obtain rfl : zs = [] := List.eq_nil_of_length_eq_zero (by omega)
      obtain rfl : news = [] := List.eq_nil_of_length_eq_zero hnl
      obtain rfl : n = 0 := by simpa using hn.symm
      exact ⟨none, [], w, run_append_nil0 w t tx ty e i h1 h2 v [] hs', ⟨by simp, by unfold maxLen; omega, Nat.le_refl _, .inl ⟨rfl, rfl, rfl⟩⟩, .inl rfl, (fun g hg => by cases hg), fun _ _ _ => rfl, Nat.le_refl _, rfl, rfl, rfl⟩
    · have hfit : n * i.size + news.length ≤ cur.size := by
        rw [hnl, hsz, hsz1, Nat.mul_one, Nat.mul_one]
        omega
      have hcell : ∀ j, j < news.length → (w.cell? ⟨gb, 0 + n * i.size + j, none⟩).isSome = true := fun j hj => by
        rw [cell_of_row w gb _ cur e fr hh, Array.getElem?_eq_getElem (by omega)]
        rfl
      have hfro : ∀ j, j < news.length → w.frozen? ⟨gb, 0 + n * i.size + j, none⟩ = false := fun j hj => by
        obtain ⟨lo, hi'⟩ := fr
        simp only [World.frozen?, hh]
        simp only at hfr
        rcases hfr with h | h <;> (simp; intro h'; omega)
      have hrun := run_append_room_src (P := P) w t tx ty e i h1 h2 gb 0 n (n + zs.length) v m news hs' (by omega) hcell hfro
      obtain ⟨cur', c1, c2⟩ := setCells_heap gb news (0 + n * i.size) w cur hh (by omega)
      obtain ⟨s1, s2, s3, s4, s5⟩ := setCells_rest gb news (0 + n * i.size) w
      have hcur : cur.toList = us ++ zs := by
        rw [← htk, List.take_of_length_le]
        rw [Array.length_toList, hsz]
        exact Nat.le_refl _
      have hdl : n + m + (zs.drop m).length = n + zs.length := by rw [List.length_drop]; omega
      have hc2 : cur'.toList = us ++ news ++ zs.drop m := by
        rw [c2, hcur, hsz1, Nat.mul_one, Nat.zero_add, hnl, ← hn, List.take_left, List.drop_append]
        rw [List.drop_eq_nil_of_le (by omega), List.nil_append, Nat.add_sub_cancel_left]
      have hcs : cur'.size = (n + m + (zs.drop m).length) * 1 := by
        have := congrArg List.length hc2
        rw [Array.length_toList] at this
        rw [this, List.length_append, List.length_append, hn, hnl, Nat.mul_one]
      refine ⟨some ⟨gb, 0, none⟩, zs.drop m, _, by rw [hdl]; exact hrun, ⟨by rw [List.length_append, List.length_append, hn, hnl, Nat.mul_one], by rw [hdl]; exact r2, Nat.le_refl _, .inr ⟨gb, cur', fr, rfl, c1, ?_, hcs, by rw [hc2]; exact List.take_of_length_le (by rw [List.length_append, List.length_append, hn, hnl, Nat.mul_one]; exact Nat.le_refl _)⟩⟩, .inl rfl, fun g hg => .inl hg, fun g _ hne => s5 g (fun e => hne (by subst e; rfl)), Nat.le_of_eq s1.symm, s2, s3, s4⟩
      rw [hcs, Nat.mul_one, hdl]
      rw [hsz, Nat.mul_one] at hfr
      exact hfr
  · have hn' : n + zs.length < n + m := by omega
    have hold : (Builtin.firstCells i.size n (.slice A n (n + zs.length))).run P w.drew = .ok us.toArray w.drew := by
      rcases r4 with ⟨rfl, hn0, hc0⟩ | ⟨gb, cur, fr, rfl, hh, hfr, hsz, htk⟩
      · obtain rfl : us = [] := List.eq_nil_of_length_eq_zero (by omega)
        obtain rfl : n = 0 := by simpa using hn.symm
        exact run_firstCells_none w.drew _ _ _ _
      · refine run_firstCells_some w.drew _ _ _ _ _ us (by rw [hsz1, Nat.mul_one, hn]) (fun j u hu => ?_)
        rw [add_lit', Nat.zero_add]
        exact RowIs.cell (w := w) (e := e) (size := 1) (n := n + zs.length) (c := n + zs.length) ⟨r1, r2, r3, .inr ⟨gb, cur, fr, rfl, hh, hfr, hsz, htk⟩⟩ (by rw [List.getElem?_append_left (List.getElem?_eq_some_iff.1 hu).1]; exact hu)
    have hfit := growslice_fits hn' hb
    unfold maxLen at h63
    have hrun := run_append_grow_src (P := P) w t tx ty e i z h1 h2 h3 A n (n + zs.length) us hold v m news hs' hn' (by omega) hfit
    have hcap1 := grownCap_ge w (n + m) (n + zs.length) e
    have hcap2 := grownCap_le_maxLen w (n + m) (n + zs.length) e (by unfold maxLen; omega)
    have hz : z.cells = #[z0] := by rw [h6]
    have hcl : ((us ++ news).toArray ++ Builtin.zeroCells z.cells (grownCap w (n + m) (n + zs.length) e - (n + m))).toList = us ++ news ++ List.replicate (grownCap w (n + m) (n + zs.length) e - (n + m)) z0 := by
      rw [hz, Array.toList_append, zeroCells_1]
    have hkc : n + m + (List.replicate (grownCap w (n + m) (n + zs.length) e - (n + m)) z0).length = grownCap w (n + m) (n + zs.length) e := by rw [List.length_replicate]; omega
    have hll : (us ++ news ++ List.replicate (grownCap w (n + m) (n + zs.length) e - (n + m)) z0).length = grownCap w (n + m) (n + zs.length) e := by rw [List.length_append, List.length_append, List.length_replicate, hn, hnl]; omega
    refine ⟨some ⟨w.heap.size, 0, none⟩, List.replicate (grownCap w (n + m) (n + zs.length) e - (n + m)) z0, _, by rw [hkc]; exact hrun, ?_, .inr (by rw [List.length_replicate]), fun g hg => .inr (by simpa using hg.symm), fun g hg _ => Below.heap_alloc w.drew _ g hg, by simp, rfl, rfl, rfl⟩
    rw [hkc]
    refine ⟨by rw [hll, Nat.mul_one], hcap2, Nat.le_refl _, .inr ⟨w.heap.size, _, (0, 0), rfl, heap_alloc_new w.drew _, .inl rfl, ?_, ?_⟩⟩
    · have := congrArg List.length hcl
      rw [Array.length_toList] at this
      rw [this, hll, Nat.mul_one]
    · rw [hcl, List.take_of_length_le (by rw [hll, Nat.mul_one]; exact Nat.le_refl _)]
section
variable {cx : Cx} {env : Env} {S : St} {o : Oper} {g : Bool} {x y z : Operand} {ops : Array Oper} {l : List Oper} {K : Env → St → Prop} {Q : Exit → Env → St → Prop} {d : Nat}
def u8V (b : UInt8) : Value := .int .u8 (b.toNat : Int)
theorem reps_u8 {w : World} {L : List Nat} : ∀ (bs : List UInt8), VReps w L (bs.map u8) (bs.map u8V)
  | [] => .nil
  | b :: bs => .cons (.v _) rfl (reps_u8 bs)
theorem reps_u8_inv {w : World} {L : List Nat} : ∀ {bs : List UInt8} {us : List Value}, VReps w L (bs.map u8) us → us = bs.map u8V
  | [], us, h => List.eq_nil_of_length_eq_zero (by simpa using h.len.symm)
  | b :: bs, [], h => absurd h.len (by simp)
  | b :: bs, u :: us, h => by
    have h0 := (h.at_ 0 _ u rfl rfl).v_inv
    have h1 : VReps w L (bs.map u8) us := ⟨by simpa using h.len, fun j t v e1 e2 => h.at_ (j + 1) t v e1 e2, fun v hv => h.one v (List.mem_cons_of_mem _ hv)⟩
    rw [reps_u8_inv h1, h0]
    rfl
/-- append to a row of bytes known up to what it can hold. -/
theorem AWL.appendFull {t tx e : TypeId} {b m i : Nat} {A : Option Addr} {bs r : List UInt8} {news : List T} (nb : List UInt8) (hnb : news = nb.map u8) (hg : o.guard = none) (hd : o.dst = some d) (hN : d < cx.N)
    (ho : o.op = .call { callee := .builtin .append, args := #[x, y], argTypes := #[t, tx] }) (he : elemOf cx.P t = some (e, 1, b, [.int .u8 0])) (hi : S[i]? = some (.row A (bs.length + r.length) (bs.length + r.length) e 1 ((bs ++ r).map u8))) (hx : Ev env true x (.v (.slice A bs.length (bs.length + r.length)))) (hy : SrcT cx env S y tx 1 m news)
    (h63 : bs.length + m ≤ maxLen) (hb : (bs.length + m) * b ≤ 140737488355328)
    (hr : ∀ (A' : Option Addr) (r' : List UInt8), AWL cx ops l K ((d, true, .v (.slice A' (bs ++ nb).length ((bs ++ nb).length + r'.length))) :: env) (S.set i (.row A' ((bs ++ nb).length + r'.length) ((bs ++ nb).length + r'.length) e 1 ((bs ++ nb ++ r').map u8)))) : AWL cx ops (o :: l) K env S := by
  subst hnb
  refine AWL.eff hg hd hN fun a w hs => ?_
  obtain ⟨us, hrow, hV⟩ := hs.row hi
  obtain ⟨ns, hVn, hsrc⟩ := hy a w hs
  obtain rfl := reps_u8_inv hV
  obtain rfl := reps_u8_inv hVn
  have hm : m = nb.length := by have := hsrc.newsLen; rw [List.length_map] at this; omega
  subst hm
  rw [List.map_append] at hrow
  have hzl : (r.map u8V).length = r.length := List.length_map ..
  rw [← hzl] at hrow
  obtain ⟨A', zs', w', hrun, hrow', hz', hblk, hkeep, hsz, hos, htp, hou⟩ := run_append_full (ty := o.type) he (by rw [List.length_map]) hrow hsrc h63 hb
  obtain ⟨r', rfl⟩ : ∃ r' : List UInt8, zs' = r'.map u8V := by
    rcases hz' with h | h
    · exact ⟨r.drop nb.length, by rw [h, List.map_drop]⟩
    · exact ⟨List.replicate zs'.length 0, by rw [List.map_replicate]; exact h⟩
  have hzl' : (r'.map u8V).length = r'.length := List.length_map ..
  rw [hzl, hzl'] at hrun
  rw [hzl'] at hrow'
  have hal : (bs ++ nb).length = bs.length + nb.length := List.length_append
  have hr' := hr A' r'
  rw [hal] at hr'
  refine ⟨_, w', _, _, ?_, ?_, .v _, hr'⟩
  · simp only [execOp, ho, resolve, invoke, builtin, Sem.run_bind, Sem.run_pure, Result.andThen_ok, List.map_toArray, List.map_cons, List.map_nil, hx.val hs rfl, hrun]
  · refine hs.swap hi hblk hkeep hsz hos htp hou (fun L hL => ⟨_, hrow', ?_⟩)
    rw [← List.map_append, ← List.map_append]
    exact reps_u8 _
theorem full_tree {w : World} {L L' : List Nat} {A : Option Addr} {e : TypeId} {bs r : List UInt8} (h : (Ent.row A (bs.length + r.length) (bs.length + r.length) e 1 ((bs ++ r).map u8)).holds w L) (hL : ∀ g, A.map (·.block) = some g → g ∉ L') : VRep w L' (.sl 1 (bs.map u8)) (.slice A bs.length (bs.length + r.length)) := by
  obtain ⟨us, ⟨r1, r2, r3, r4⟩, hV⟩ := h
  obtain rfl := reps_u8_inv hV
  rcases r4 with ⟨rfl, hn0, hc0⟩ | ⟨gb, cur, fr, rfl, hh, hfr, hsz, htk⟩
  · obtain rfl : bs = [] := List.eq_nil_of_length_eq_zero (by omega)
    exact .sl0 r2
  · refine sl_new (us := bs.map u8V) (by decide) (by rw [List.length_map, Nat.mul_one]) (Nat.le_add_right _ _) r2 (reps_u8 bs) hh (hL gb rfl) ?_
    rw [List.length_map]
    have hcur : cur.toList = (bs ++ r).map u8V := by
      rw [← htk, List.take_of_length_le]
      rw [Array.length_toList, hsz]
      exact Nat.le_refl _
    rw [hcur, List.map_append]
    conv => lhs; rw [show bs.length = (bs.map u8V).length from (List.length_map ..).symm, List.take_left]
end
end Go.Proofs.YtjndpakhmgapjaaDoor

namespace Go.Proofs.YtjndpakhmgapjaaDoor
open Go Go.RowKit
set_option linter.unusedSimpArgs false
set_option linter.unusedVariables false
def CB (b : Nat) (A : Option Addr) (c : List UInt8) (bs : List UInt8) : St := [.row A (bs.length + c.length) (bs.length + c.length) 5 1 ((bs ++ c).map u8), .box b 49 [.v (.slice A bs.length (bs.length + c.length))]]
def cp (b : Nat) : Value := .pointer (some ⟨b, 0, none⟩)
theorem putF_take {l : List Int} {j : Nat} (h : j < l.length) : putF (l.take (j + 1)) = putF (l.take j) ++ [byteOf (l.getD j 0)] := by
  unfold putF
  rw [List.take_succ_eq_append_getElem h, List.map_append]
  simp [h]
theorem cbx_end {b : Nat} {c : List UInt8} {A : Option Addr} {bs bs' : List UInt8} {E : Ent} (h : bs = bs') : ∃ A' c' e, (CB b A c bs ++ [E] : St) = CB b A' c' bs' ++ [e] := by subst h; exact ⟨_, _, _, rfl⟩
theorem put_nb (x : Int) : [T.v (.int .u8 (IntKind.u8.wrap x))] = [byteOf x].map u8 := by rw [byteOf_wrap]; rfl
theorem enc_end {A : Option Addr} {c bs : List UInt8} {z : T} {i : Ins} (h : bs = encF i) : ∃ (A' : Option Addr) (r : List UInt8), T.tup [.v (.slice A bs.length (bs.length + c.length)), z] = .tup [.v (.slice A' (encF i).length ((encF i).length + r.length)), z] ∧ ([Ent.row A (bs.length + c.length) (bs.length + c.length) 5 1 ((bs ++ c).map u8)] : St) = [Ent.row A' ((encF i).length + r.length) ((encF i).length + r.length) 5 1 ((encF i ++ r).map u8)] := by subst h; exact ⟨A, c, rfl, rfl⟩
theorem opF_range (k : Int) : 0 ≤ (opF k).2 ∧ (opF k).2 ≤ 15 := by
  unfold opF
  split
  · rename_i h
    have h2 : ∀ n : Fin 39, 0 ≤ (opTab.getD n.val (255, 4)).2 ∧ (opTab.getD n.val (255, 4)).2 ≤ 15 := by decide
    exact h2 ⟨k.toNat, by omega⟩
  · exact ⟨by decide, by decide⟩
section
variable {i : Ins}
theorem enc0 (h : clsF i.kind = 0) : encF i = [byteOf (rexN true i.s i.d), byteOf (opF i.kind).1, byteOf (twoN i.s i.d)] := by unfold encF; rw [h]; rfl
theorem enc1 (h : clsF i.kind = 1) : encF i = byteOf (rexN true 0 i.d) :: byteOf (opF i.kind).1 :: byteOf (twoN (opF i.kind).2 i.d) :: immF i.imm 4 := by unfold encF; rw [h]; rfl
theorem enc2 (h : clsF i.kind = 2) : encF i = [byteOf (rexN true 0 i.d), byteOf (opF i.kind).1, byteOf (twoN (opF i.kind).2 i.d)] := by unfold encF; rw [h]; rfl
theorem enc3 (h : clsF i.kind = 3) : encF i = byteOf (rexN true 0 i.d) :: byteOf (opF i.kind).1 :: byteOf (twoN (opF i.kind).2 i.d) :: immF i.imm 1 := by unfold encF; rw [h]; rfl
theorem enc4 (h : clsF i.kind = 4) : encF i = [byteOf (rexN false 0 i.d), byteOf (opF i.kind).1, byteOf (twoN (opF i.kind).2 i.d)] := by unfold encF; rw [h]; rfl
theorem enc5 (h : clsF i.kind = 5) : encF i = if smallF i.imm = true then byteOf (rexN true 0 i.d) :: 199 :: byteOf (twoN 0 i.d) :: immF i.imm 4 else byteOf (rexN true 0 i.d) :: byteOf (184 + i.d % 8) :: immF i.imm 8 := by unfold encF; rw [h]; rfl
theorem enc6 (h : clsF i.kind = 6) : encF i = memoryF i := by unfold encF; rw [h]; rfl
theorem enc7 (h : clsF i.kind = 7) : encF i = jumpF i := by unfold encF; rw [h]; rfl
theorem enc9 (h : clsF i.kind = 9) : encF i = [byteOf (rexN false 0 i.d), byteOf (80 + i.d % 8)] := by unfold encF; rw [h]; rfl
theorem enc10 (h : clsF i.kind = 10) : encF i = [byteOf (rexN false 0 i.d), byteOf (88 + i.d % 8)] := by unfold encF; rw [h]; rfl
theorem enc11 (h : clsF i.kind = 11) : encF i = [195] := by unfold encF; rw [h]; rfl
theorem enc12 (h : clsF i.kind = 12) : encF i = [15, 5] := by unfold encF; rw [h]; rfl
theorem enc13 (h : clsF i.kind = 13) : encF i = [15, 11] := by unfold encF; rw [h]; rfl
end
end Go.Proofs.YtjndpakhmgapjaaDoor

namespace Go.Proofs.YtjndpakhmgapjaaDoor
open Go Go.RowKit
set_option linter.unusedVariables false
set_option linter.unnecessarySimpa false
set_option linter.unusedSimpArgs false

set_option maxHeartbeats 400000 in
theorem put35 (b : Nat) (A : Option Addr) (c : List UInt8) (bs : List UInt8) (l : List Int) (hb : bs.length + l.length ≤ 1000 := by simp [putF, immF, leBytes_length] <;> omega) :
    ACalls Tryd.prog 28 [.v (cp b), .sl 1 (ints l)] (CB b A c bs) (fun t_ S => t_ = .v (cp b) ∧ ∃ A' c', S = CB b A' c' (bs ++ putF l)) := by
  refine ACalls.intro Tryd.func28 rfl Tryd.ntmps28 (Nat.le_of_ble_eq_true rfl) rfl fun X w0 => ?_
  refine AW.rseq ?_
  refine Y1 (Yv.assign rfl eV) ?_
  refine nl ?_
  refine AW.seq ?_
  refine AW.rseq ?_
  refine Y1 (Yv.move rfl eV) ?_
  refine Y1 (Yv.lenSl rfl so_43 (B rfl) (E rfl rfl) len_ints) ?_
  refine Y1 (Yv.move rfl eV) ?_
  refine nl ?_
  refine AW.block ?_
  refine AW.loop3 (fun (j : Nat) (A1 : Option Addr) (c1 : List UInt8) => [(0, true, .v (cp b)), (7, true, .sl 1 (ints l)), (8, true, .v (.int .i64 (l.length : Int))), (9, true, .v (.int .i64 (j : Int)))]) (fun (j : Nat) (A1 : Option Addr) (c1 : List UInt8) => (CB b A1 c1 (bs ++ putF (l.take j)))) (fun (j : Nat) (A1 : Option Addr) (c1 : List UInt8) => j ≤ l.length) (fun (j : Nat) (A1 : Option Addr) (c1 : List UInt8) => l.length - j) 0 A c ?_ ?_ ?_ ?_
  · exact Nat.zero_le _
  · exact (Sub.cons rfl rfl (Sub.cons rfl rfl (Sub.cons rfl rfl (Sub.cons rfl rfl Sub.nil))))
  · simp [putF]
  ·
   intro j A1 c1 hinv
   have hlp : (bs ++ putF (l.take j)).length = bs.length + j := by simp [putF]; omega
   refine AW.rseq ?_
   refine Y1 (Yv.lss rfl eV eV) ?_
   refine nl ?_
   refine AW.seq ?_
   refine AW.cond rfl (fun h0t => ?_) (fun h0f => ?_)
   ·
    try replace h0t := of_decide_eq_true h0t
    refine AW.skip ?_
    refine AW.seq ?_
    refine AW.block ?_
    refine AW.rseq ?_
    refine Y1 (Yv.indexSl rfl ss_43 (B rfl) (E rfl rfl) (E rfl rfl) (fun hg => ⟨rfl, (by first | omega | (simp only [len_ints, len_u8s]; omega))⟩)) ?_
    refine Y1 (Yv.loadRp rfl ag_3 (E rfl rfl) (fun hg => ints_get (by omega))) ?_
    refine Y1 (Yv.assign rfl eV) ?_
    refine nl ?_
    refine AW.region ?_
    refine Y1 (Yv.move rfl eV) ?_
    refine Y1 (Yv.move rfl eV) ?_
    refine Y1 (Yv.nilChk rfl eV) ?_
    refine Y1 (Yv.fieldBox rfl fo_49_0 eV) ?_
    refine Y1 (Yv.loadBox rfl ag_24 (i := 1) rfl (E rfl rfl) rfl) ?_
    refine Y1 (Yv.move rfl eV) ?_
    refine Y1 (Yv.conv rfl Tryd.underlying3 kd_5 (E rfl rfl)) ?_
    refine AWL.buildSlice1 rfl rfl (B rfl) rfl el_24 rfl (evsC (E rfl rfl) evs0) (Nat.le_of_ble_eq_true rfl) rfl rfl ?_
    refine AWL.appendFull (i := 0) [byteOf (l.getD j 0)] (put_nb _) rfl rfl (B rfl) rfl el_24 rfl (E rfl rfl) (SrcT.sl so_24 (B rfl) (E rfl rfl) rfl) (by unfold maxLen; omega) (by omega) (fun A21 c21 => ?_)
    refine Y1 (Yv.nilChk rfl eV) ?_
    refine Y1 (Yv.fieldBox rfl fo_49_0 eV) ?_
    refine AWL.storeBox (i := 1) rfl rfl rfl ag_24 rfl (E rfl rfl) (E rfl rfl) rfl rfl (Nat.le_of_ble_eq_true rfl) ?_
    refine nl ?_
    refine AW.region ?_
    refine Y1 (Yv.addN_i64 rfl (E rfl rfl) (E rfl rfl) (fun hg => by omega)) ?_
    refine Y1 (Yv.move rfl eV) ?_
    refine nl ?_
    refine ⟨j + 1, A21, c21, by omega, by omega, Sub.cons rfl rfl (Sub.cons rfl rfl (Sub.cons rfl rfl (Sub.cons rfl (by simp) Sub.nil))), ?_⟩
    rw [putF_take (by omega), ← List.append_assoc]
    rfl
   try replace h0f := of_decide_eq_false h0f
   refine AW.exit ?_
   refine AW.rseq ?_
   refine Y1 (Yv.move rfl eV) ?_
   refine Y1 (Yv.assign rfl eV) ?_
   refine nl ?_
   refine AW.ret (retI (.tmp rfl .nil) ?_)
   have hj : j = l.length := by omega
   subst hj
   rw [List.take_length]
   exact ⟨rfl, _, _, rfl⟩

set_option maxHeartbeats 400000 in
theorem rex34 (b : Nat) (A : Option Addr) (c : List UInt8) (bs : List UInt8) (wide : Bool) (p q : Int) (hp : 0 ≤ p ∧ p ≤ 15 := by first | assumption | decide | exact opF_range _) (hq : 0 ≤ q ∧ q ≤ 15 := by first | assumption | decide | exact opF_range _) (hb : bs.length + 20 ≤ 990 := by simp [putF, immF, leBytes_length] <;> omega) :
    ACalls Tryd.prog 27 [.v (cp b), .v (.bool wide), .v (.int .i64 p), .v (.int .i64 q)] (CB b A c bs) (fun t_ S => t_ = .v (cp b) ∧ ∃ A' c', S = CB b A' c' (bs ++ [byteOf (rexN wide p q)])) := by
  refine ACalls.intro Tryd.func27 rfl Tryd.ntmps27 (Nat.le_of_ble_eq_true rfl) rfl fun X w0 => ?_
  refine AW.rseq ?_
  refine Y1 (Yv.assign rfl eV) ?_
  refine nl ?_
  refine AW.rseq ?_
  refine Y1 (Yv.move rfl eV) ?_
  refine Y1 (Yv.shrC 8 (by decide) (by decide) (by decide) rfl (E rfl rfl) (E rfl rfl)) ?_
  refine Y1 (Yv.shlCN_i64 4 (by decide) (by decide) rfl (E rfl rfl) (E rfl rfl) (fun hg => by omega)) ?_
  refine Y1 (Yv.bits rfl rfl (E rfl rfl) (E rfl rfl)) ?_
  refine Y1 (Yv.move rfl eV) ?_
  refine Y1 (Yv.shrC 8 (by decide) (by decide) (by decide) rfl (E rfl rfl) (E rfl rfl)) ?_
  refine Y1 (Yv.bits rfl rfl (E rfl rfl) (E rfl rfl)) ?_
  refine Y1 (Yv.assign rfl eV) ?_
  refine nl ?_
  refine AW.seq ?_
  refine AW.rseq ?_
  refine Y1 (Yv.move rfl eV) ?_
  refine nl ?_
  refine AW.cond rfl (fun h0t => ?_) (fun h0f => ?_)
  ·
   try replace h0t := of_decide_eq_true h0t
   subst h0t
   refine AW.region ?_
   refine Y1 (Yv.move rfl eV) ?_
   refine Y1 (Yv.bits rfl rfl (E rfl rfl) (E rfl rfl)) ?_
   refine Y1 (Yv.assign rfl eV) ?_
   refine nl ?_
   refine AW.rseq ?_
   refine Y1 (Yv.move rfl eV) ?_
   refine Y1 (Yv.move rfl eV) ?_
   refine AWL.buildSlice1 rfl rfl (B rfl) rfl el_43 rfl (evsC (E rfl rfl) evs0) (Nat.le_of_ble_eq_true rfl) rfl rfl ?_
   refine C1 rfl ce_28 (E rfl rfl) (evsC (E rfl rfl) (evsC (E rfl rfl) evs0)) (S1 := CB _ _ _ _) (S2 := []) rfl (put35 b A c (bs) [_] (by simp; omega)) ?_
   rintro t23 S23 ⟨rfl, A23, c23, rfl⟩
   refine Y1 (Yv.assign rfl eV) ?_
   refine nl ?_
   refine AW.ret (retI (.tmp rfl .nil) ?_)
   exact ⟨rfl, _, _, (by rw [rex_or8 p q hp hq]; rfl)⟩
  try replace h0f := of_decide_eq_false h0f
  subst h0f
  refine AW.skip ?_
  refine AW.rseq ?_
  refine Y1 (Yv.move rfl eV) ?_
  refine Y1 (Yv.move rfl eV) ?_
  refine AWL.buildSlice1 rfl rfl (B rfl) rfl el_43 rfl (evsC (E rfl rfl) evs0) (Nat.le_of_ble_eq_true rfl) rfl rfl ?_
  refine C1 rfl ce_28 (E rfl rfl) (evsC (E rfl rfl) (evsC (E rfl rfl) evs0)) (S1 := CB _ _ _ _) (S2 := []) rfl (put35 b A c (bs) [_] (by simp; omega)) ?_
  rintro t23 S23 ⟨rfl, A23, c23, rfl⟩
  refine Y1 (Yv.assign rfl eV) ?_
  refine nl ?_
  refine AW.ret (retI (.tmp rfl .nil) ?_)
  exact ⟨rfl, _, _, (by rw [rex_or p q hp hq, show rexN false p q = 64 + p / 8 * 4 + q / 8 from Int.add_zero _]; rfl)⟩

set_option maxHeartbeats 400000 in
theorem two36 (b : Nat) (A : Option Addr) (c : List UInt8) (bs : List UInt8) (p q : Int) (hp : 0 ≤ p ∧ p ≤ 15 := by first | assumption | decide | exact opF_range _) (hq : 0 ≤ q ∧ q ≤ 15 := by first | assumption | decide | exact opF_range _) (hb : bs.length + 20 ≤ 990 := by simp [putF, immF, leBytes_length] <;> omega) :
    ACalls Tryd.prog 29 [.v (cp b), .v (.int .i64 p), .v (.int .i64 q)] (CB b A c bs) (fun t_ S => t_ = .v (cp b) ∧ ∃ A' c', S = CB b A' c' (bs ++ [byteOf (twoN p q)])) := by
  refine ACalls.intro Tryd.func29 rfl Tryd.ntmps29 (Nat.le_of_ble_eq_true rfl) rfl fun X w0 => ?_
  refine AW.rseq ?_
  refine Y1 (Yv.assign rfl eV) ?_
  refine nl ?_
  refine AW.rseq ?_
  refine Y1 (Yv.move rfl eV) ?_
  refine Y1 (Yv.move rfl eV) ?_
  refine Y1 (Yv.andN_i64 3 8 (by decide) (by decide) (by decide) rfl (E rfl rfl) (E rfl rfl) (fun hg => ⟨by omega, by omega⟩)) ?_
  refine Y1 (Yv.shlCN_i64 8 (by decide) (by decide) rfl (E rfl rfl) (E rfl rfl) (fun hg => by omega)) ?_
  refine Y1 (Yv.bits rfl rfl (E rfl rfl) (E rfl rfl)) ?_
  refine Y1 (Yv.move rfl eV) ?_
  refine Y1 (Yv.andN_i64 3 8 (by decide) (by decide) (by decide) rfl (E rfl rfl) (E rfl rfl) (fun hg => ⟨by omega, by omega⟩)) ?_
  refine Y1 (Yv.bits rfl rfl (E rfl rfl) (E rfl rfl)) ?_
  refine AWL.buildSlice1 rfl rfl (B rfl) rfl el_43 rfl (evsC (E rfl rfl) evs0) (Nat.le_of_ble_eq_true rfl) rfl rfl ?_
  refine C1 rfl ce_28 (E rfl rfl) (evsC (E rfl rfl) (evsC (E rfl rfl) evs0)) (S1 := CB _ _ _ _) (S2 := []) rfl (put35 b A c (bs) [_] (by simp; omega)) ?_
  rintro t16 S16 ⟨rfl, A16, c16, rfl⟩
  refine Y1 (Yv.assign rfl eV) ?_
  refine nl ?_
  refine AW.ret (retI (.tmp rfl .nil) ?_)
  exact ⟨rfl, _, _, (by rw [show ((8 : Nat) : Int) = 8 from rfl, two_or p q]; rfl)⟩

set_option maxHeartbeats 400000 in
theorem imm37 (b : Nat) (A : Option Addr) (c : List UInt8) (bs : List UInt8) (n : Int) (k : Nat) (hk : k ≤ 8 := by omega) (hb : bs.length + 20 ≤ 990 := by simp [putF, immF, leBytes_length] <;> omega) :
    ACalls Tryd.prog 30 [.v (cp b), .v (.int .i64 n), .v (.int .i64 (k : Int))] (CB b A c bs) (fun t_ S => t_ = .v (cp b) ∧ ∃ A' c', S = CB b A' c' (bs ++ immF n k)) := by
  refine ACalls.intro Tryd.func30 rfl Tryd.ntmps30 (Nat.le_of_ble_eq_true rfl) rfl fun X w0 => ?_
  refine AW.rseq ?_
  refine Y1 (Yv.assign rfl eV) ?_
  refine nl ?_
  refine AW.seq ?_
  refine AW.rseq ?_
  refine Y1 (Yv.move rfl eV) ?_
  refine Y1 (Yv.move rfl eV) ?_
  refine nl ?_
  refine AW.block ?_
  refine AW.loop3 (fun (j : Nat) (A1 : Option Addr) (c1 : List UInt8) => [(0, true, .v (cp b)), (1, true, .v (.int .i64 (n / 256 ^ j))), (7, true, .v (.int .i64 (k : Int))), (8, true, .v (.int .i64 (j : Int)))]) (fun (j : Nat) (A1 : Option Addr) (c1 : List UInt8) => (CB b A1 c1 (bs ++ immF n j))) (fun (j : Nat) (A1 : Option Addr) (c1 : List UInt8) => j ≤ k) (fun (j : Nat) (A1 : Option Addr) (c1 : List UInt8) => k - j) 0 A c ?_ ?_ ?_ ?_
  · exact Nat.zero_le _
  · exact Sub.cons rfl rfl (Sub.cons rfl (by simp) (Sub.cons rfl rfl (Sub.cons rfl rfl Sub.nil)))
  · simp [immF, leBytes]
  ·
   intro j A1 c1 hinv
   have hlp : (bs ++ immF n j).length = bs.length + j := by simp [immF, leBytes_length]
   refine AW.rseq ?_
   refine Y1 (Yv.lss rfl eV eV) ?_
   refine nl ?_
   refine AW.seq ?_
   refine AW.cond rfl (fun h0t => ?_) (fun h0f => ?_)
   ·
    try replace h0t := of_decide_eq_true h0t
    refine AW.skip ?_
    refine AW.seq ?_
    refine AW.block ?_
    refine AW.rseq ?_
    refine Y1 (Yv.move rfl eV) ?_
    refine Y1 (Yv.move rfl eV) ?_
    refine Y1 (Yv.bits rfl rfl (E rfl rfl) (E rfl rfl)) ?_
    refine AWL.buildSlice1 rfl rfl (B rfl) rfl el_43 rfl (evsC (E rfl rfl) evs0) (Nat.le_of_ble_eq_true rfl) rfl rfl ?_
    refine C1 rfl ce_28 (E rfl rfl) (evsC (E rfl rfl) (evsC (E rfl rfl) evs0)) (S1 := CB _ _ _ _) (S2 := []) rfl (put35 b A1 c1 (bs ++ immF n j) [_] (by rw [List.length_cons, List.length_nil]; omega)) ?_
    rintro t14 S14 ⟨rfl, A14, c14, rfl⟩
    refine nl ?_
    refine AW.region ?_
    refine Y1 (Yv.move rfl eV) ?_
    refine Y1 (Yv.shrC 256 (by decide) (by decide) (by decide) rfl (E rfl rfl) (E rfl rfl)) ?_
    refine Y1 (Yv.assign rfl eV) ?_
    refine nl ?_
    refine AW.region ?_
    refine Y1 (Yv.addN_i64 rfl (E rfl rfl) (E rfl rfl) (fun hg => by omega)) ?_
    refine Y1 (Yv.move rfl eV) ?_
    refine nl ?_
    refine ⟨j + 1, A14, c14, by omega, by omega, Sub.cons rfl rfl (Sub.cons rfl (by rw [div_succ]) (Sub.cons rfl rfl (Sub.cons rfl (by simp) Sub.nil))), ?_⟩
    rw [immF_succ, ← List.append_assoc, ← byteOf_and]
    rfl
   try replace h0f := of_decide_eq_false h0f
   refine AW.exit ?_
   refine AW.rseq ?_
   refine Y1 (Yv.move rfl eV) ?_
   refine Y1 (Yv.assign rfl eV) ?_
   refine nl ?_
   refine AW.ret (retI (.tmp rfl .nil) ?_)
   have hj : j = k := by omega
   subst hj
   exact ⟨rfl, _, _, rfl⟩

set_option maxHeartbeats 400000 in
theorem mem53 (b : Nat) (A : Option Addr) (c : List UInt8) (bs : List UInt8) (p q n : Int) (hp : 0 ≤ p ∧ p ≤ 15 := by first | assumption | decide | exact opF_range _) (hq : 0 ≤ q ∧ q ≤ 15 := by first | assumption | decide | exact opF_range _) (hb : bs.length + 20 ≤ 900 := by simp [putF, immF, leBytes_length] <;> omega) :
    ACalls Tryd.prog 55 [.v (cp b), .v (.int .i64 p), .v (.int .i64 q), .v (.int .i64 n)] (CB b A c bs) (fun t_ S => t_ = .v (cp b) ∧ ∃ A' c', S = CB b A' c' (bs ++ memF p q n)) := by
  refine ACalls.intro Tryd.func55 rfl Tryd.ntmps55 (Nat.le_of_ble_eq_true rfl) rfl fun X w0 => ?_
  refine AW.rseq ?_
  refine Y1 (Yv.assign rfl eV) ?_
  refine nl ?_
  refine AW.rseq ?_
  refine Y1 (Yv.move rfl eV) ?_
  refine Y1 (Yv.move rfl eV) ?_
  refine Y1 (Yv.andN_i64 3 8 (by decide) (by decide) (by decide) rfl (E rfl rfl) (E rfl rfl) (fun hg => ⟨by omega, by omega⟩)) ?_
  refine Y1 (Yv.shlCN_i64 8 (by decide) (by decide) rfl (E rfl rfl) (E rfl rfl) (fun hg => by omega)) ?_
  refine Y1 (Yv.bits rfl rfl (E rfl rfl) (E rfl rfl)) ?_
  refine Y1 (Yv.move rfl eV) ?_
  refine Y1 (Yv.andN_i64 3 8 (by decide) (by decide) (by decide) rfl (E rfl rfl) (E rfl rfl) (fun hg => ⟨by omega, by omega⟩)) ?_
  refine Y1 (Yv.bits rfl rfl (E rfl rfl) (E rfl rfl)) ?_
  refine AWL.buildSlice1 rfl rfl (B rfl) rfl el_43 rfl (evsC (E rfl rfl) evs0) (Nat.le_of_ble_eq_true rfl) rfl rfl ?_
  refine C1 rfl ce_28 (E rfl rfl) (evsC (E rfl rfl) (evsC (E rfl rfl) evs0)) (S1 := CB _ _ _ _) (S2 := []) rfl (put35 b A c (bs) [_] (by simp; omega)) ?_
  rintro t18 S18 ⟨rfl, A18, c18, rfl⟩
  refine nl ?_
  have e1 : putF [bitsOf .or .i64 (bitsOf .or .i64 128 (p % ((8 : Nat) : Int) * 8)) (q % ((8 : Nat) : Int))] = [byteOf (memN p q)] := by rw [show ((8 : Nat) : Int) = 8 from rfl, mem_or p q]; rfl
  rw [e1]
  refine AW.seq ?_
  refine AW.rseq ?_
  refine Y1 (Yv.move rfl eV) ?_
  refine Y1 (Yv.andN_i64 3 8 (by decide) (by decide) (by decide) rfl (E rfl rfl) (E rfl rfl) (fun hg => ⟨by omega, by omega⟩)) ?_
  refine Y1 (Yv.eql rfl eV eV) ?_
  refine nl ?_
  refine AW.cond rfl (fun h0t => ?_) (fun h0f => ?_)
  ·
   try replace h0t := of_decide_eq_true h0t
   replace h0t : q % 8 = 4 := h0t
   refine AW.region ?_
   refine Y1 (Yv.move rfl eV) ?_
   refine AWL.buildSlice1 rfl rfl (B rfl) rfl el_43 rfl (evsC (E rfl rfl) evs0) (Nat.le_of_ble_eq_true rfl) rfl rfl ?_
   refine C1 rfl ce_28 (E rfl rfl) (evsC (E rfl rfl) (evsC (E rfl rfl) evs0)) (S1 := CB _ _ _ _) (S2 := []) rfl (put35 b _ _ (bs ++ [byteOf (memN p q)]) [_] (by simp; omega)) ?_
   rintro t24 S24 ⟨rfl, A24, c24, rfl⟩
   refine nl ?_
   refine AW.rseq ?_
   refine Y1 (Yv.move rfl eV) ?_
   refine Y1 (Yv.move rfl eV) ?_
   refine C1 rfl ce_30 (E rfl rfl) (evsC (E rfl rfl) (evsC (E rfl rfl) (evsC (E rfl rfl) evs0))) (S1 := CB _ _ _ _) (S2 := []) rfl (imm37 b _ _ (bs ++ [byteOf (memN p q)] ++ [36]) n 4 (by omega) (by simp; omega)) ?_
   rintro t27 S27 ⟨rfl, A27, c27, rfl⟩
   refine Y1 (Yv.assign rfl eV) ?_
   refine nl ?_
   refine AW.ret (retI (.tmp rfl .nil) ?_)
   exact ⟨rfl, _, _, (by rw [memF, if_pos h0t]; simp [putF]; rfl)⟩
  try replace h0f := of_decide_eq_false h0f
  replace h0f : ¬ q % 8 = 4 := h0f
  refine AW.skip ?_
  refine AW.rseq ?_
  refine Y1 (Yv.move rfl eV) ?_
  refine Y1 (Yv.move rfl eV) ?_
  refine C1 rfl ce_30 (E rfl rfl) (evsC (E rfl rfl) (evsC (E rfl rfl) (evsC (E rfl rfl) evs0))) (S1 := CB _ _ _ _) (S2 := []) rfl (imm37 b _ _ (bs ++ [byteOf (memN p q)]) n 4 (by omega) (by simp; omega)) ?_
  rintro t27 S27 ⟨rfl, A27, c27, rfl⟩
  refine Y1 (Yv.assign rfl eV) ?_
  refine nl ?_
  refine AW.ret (retI (.tmp rfl .nil) ?_)
  exact ⟨rfl, _, _, (by rw [memF, if_neg h0f]; simp; rfl)⟩

end Go.Proofs.YtjndpakhmgapjaaDoor

namespace Go.Proofs.YtjndpakhmgapjaaDoor
open Go Go.RowKit
set_option linter.unusedVariables false
set_option linter.unnecessarySimpa false
set_option linter.unusedSimpArgs false

set_option maxHeartbeats 1000000 in
theorem memory39 (b : Nat) (A : Option Addr) (c : List UInt8) (bs : List UInt8) (i : Ins) (hd : 0 ≤ i.d ∧ i.d ≤ 15) (hs : 0 ≤ i.s ∧ i.s ≤ 15) (hc : 0 ≤ i.cond ∧ i.cond ≤ 15) (hb : bs.length ≤ 800) :
    ACalls Tryd.prog 32 [.v (cp b), insT i] (CB b A c bs) (fun t_ S => ∃ A' c' e, S = CB b A' c' (bs ++ memoryF i) ++ [e]) := by
  refine ACalls.intro Tryd.func32 rfl Tryd.ntmps32 (Nat.le_of_ble_eq_true rfl) rfl fun X w0 => ?_
  refine AW.rseq ?_
  refine AWL.boxOp rfl rfl (B rfl) rfl (E rfl rfl) rfl (fun b3 => ?_)
  refine nl ?_
  refine AW.block ?_
  refine AW.rseq ?_
  refine Y1 (Yv.fieldBox rfl fo_23_0 eV) ?_
  refine Y1 (Yv.loadBox rfl ag_3 (i := 2) rfl (E rfl rfl) rfl) ?_
  refine Y1 (Yv.eql rfl eV eV) ?_
  refine Y1 (Yv.assign rfl eV) ?_
  refine nl ?_
  refine AW.cond rfl (fun h0t => ?_) (fun h0f => ?_)
  ·
   try replace h0t := of_decide_eq_true h0t
   refine AW.regionH (HeldBox b3 (insVals i)) rfl (tells_box (k := 2) rfl) ?_
   refine AWH.tk (i := 0) rfl rfl rfl (B rfl) (heldAll (freeMove rfl (E rfl rfl))) ?_
   refine AWH.tk (i := 1) rfl rfl rfl (B rfl) (heldAll (freeField rfl fo_23_1 (E rfl rfl))) ?_
   refine AWH.tk (i := 2) rfl rfl rfl (B rfl) (heldLoad rfl ag_3 (E rfl rfl) rfl) ?_
   refine AWH.tk (i := 3) rfl rfl rfl (B rfl) (heldAll (freeField rfl fo_23_2 (E rfl rfl))) ?_
   refine AWH.tk (i := 4) rfl rfl rfl (B rfl) (heldLoad rfl ag_3 (E rfl rfl) rfl) ?_
   refine AWH.tk (i := 8) rfl rfl rfl (B rfl) (heldAll (freeField rfl fo_23_1 (E rfl rfl))) ?_
   refine AWH.tk (i := 9) rfl rfl rfl (B rfl) (heldLoad rfl ag_3 (E rfl rfl) rfl) ?_
   refine AWH.tk (i := 10) rfl rfl rfl (B rfl) (heldAll (freeField rfl fo_23_2 (E rfl rfl))) ?_
   refine AWH.tk (i := 11) rfl rfl rfl (B rfl) (heldLoad rfl ag_3 (E rfl rfl) rfl) ?_
   refine AWH.tk (i := 12) rfl rfl rfl (B rfl) (heldAll (freeField rfl fo_23_5 (E rfl rfl))) ?_
   refine AWH.tk (i := 13) rfl rfl rfl (B rfl) (heldLoad rfl ag_2 (E rfl rfl) rfl) ?_
   refine AWH.two (i := 5) (j := 6) (by kernel_rfl) rfl rfl ?_ ?_
   ·
    refine C1 rfl ce_27 (E rfl rfl) (evsC (E rfl rfl) (evsC (E rfl rfl) (evsC (E rfl rfl) (evsC (E rfl rfl) evs0)))) (S1 := CB _ _ _ _) (S2 := [_]) rfl (rex34 _ _ _ _ _ _ _) ?_
    rintro t31 S31 ⟨rfl, A31, c31, rfl⟩
    refine tb 2 rfl ?_
    refine AWH.one (i := 6) (by kernel_rfl) rfl ?_
    refine AWL.buildSlice1 rfl rfl (B rfl) rfl el_43 rfl (evsC (E rfl rfl) evs0) (Nat.le_of_ble_eq_true rfl) rfl rfl ?_
    refine tb 2 rfl ?_
    refine AWH.one (i := 7) (by kernel_rfl) rfl ?_
    refine C1 rfl ce_28 (E rfl rfl) (evsC (E rfl rfl) (evsC (E rfl rfl) evs0)) (S1 := CB _ _ _ _) (S2 := [_]) rfl (put35 _ _ _ _ [_]) ?_
    rintro t33 S33 ⟨rfl, A33, c33, rfl⟩
    refine tb 2 rfl ?_
    refine AWH.one (i := 14) (by kernel_rfl) rfl ?_
    refine C1 rfl ce_55 (E rfl rfl) (evsC (E rfl rfl) (evsC (E rfl rfl) (evsC (E rfl rfl) (evsC (E rfl rfl) evs0)))) (S1 := CB _ _ _ _) (S2 := [_]) rfl (mem53 _ _ _ _ _ _ _) ?_
    rintro t40 S40 ⟨rfl, A40, c40, rfl⟩
    refine tb 2 rfl ?_
    refine AWH.done (by kernel_rfl) ?_
    refine retN .nil ?_
    refine cbx_end ?_
    rw [memoryF, if_pos h0t]
    simp only [List.append_assoc]
    rfl
   ·
    refine AWL.buildSlice1 rfl rfl (B rfl) rfl el_43 rfl (evsC (E rfl rfl) evs0) (Nat.le_of_ble_eq_true rfl) rfl rfl ?_
    refine tb 2 rfl ?_
    refine AWH.one (i := 5) (by kernel_rfl) rfl ?_
    refine C1 rfl ce_27 (E rfl rfl) (evsC (E rfl rfl) (evsC (E rfl rfl) (evsC (E rfl rfl) (evsC (E rfl rfl) evs0)))) (S1 := CB _ _ _ _) (S2 := [_]) rfl (rex34 _ _ _ _ _ _ _) ?_
    rintro t31 S31 ⟨rfl, A31, c31, rfl⟩
    refine tb 2 rfl ?_
    refine AWH.one (i := 7) (by kernel_rfl) rfl ?_
    refine C1 rfl ce_28 (E rfl rfl) (evsC (E rfl rfl) (evsC (E rfl rfl) evs0)) (S1 := CB _ _ _ _) (S2 := [_]) rfl (put35 _ _ _ _ [_]) ?_
    rintro t33 S33 ⟨rfl, A33, c33, rfl⟩
    refine tb 2 rfl ?_
    refine AWH.one (i := 14) (by kernel_rfl) rfl ?_
    refine C1 rfl ce_55 (E rfl rfl) (evsC (E rfl rfl) (evsC (E rfl rfl) (evsC (E rfl rfl) (evsC (E rfl rfl) evs0)))) (S1 := CB _ _ _ _) (S2 := [_]) rfl (mem53 _ _ _ _ _ _ _) ?_
    rintro t40 S40 ⟨rfl, A40, c40, rfl⟩
    refine tb 2 rfl ?_
    refine AWH.done (by kernel_rfl) ?_
    refine retN .nil ?_
    refine cbx_end ?_
    rw [memoryF, if_pos h0t]
    simp only [List.append_assoc]
    rfl
  try replace h0f := of_decide_eq_false h0f
  refine AW.rseq ?_
  refine Y1 (Yv.fieldBox rfl fo_23_0 eV) ?_
  refine Y1 (Yv.loadBox rfl ag_3 (i := 2) rfl (E rfl rfl) rfl) ?_
  refine Y1 (Yv.eql rfl eV eV) ?_
  refine Y1 (Yv.move rfl eV) ?_
  refine AWL.ygT rfl rfl rfl rfl (B rfl) (Yv.fieldBox rfl fo_23_4 (E rfl rfl)) ?_
  refine AWL.ygT rfl rfl rfl rfl (B rfl) (Yv.loadBox rfl ag_3 (i := 2) rfl (Eg rfl rfl id) rfl) ?_
  refine AWL.ygT rfl rfl rfl rfl (B rfl) (Yv.eql rfl (Eg rfl rfl id) (E rfl rfl)) ?_
  refine Y1 (Yv.pickAnd rfl (E rfl rfl) (Eg rfl rfl id)) ?_
  refine Y1 (Yv.assign rfl eV) ?_
  refine nl ?_
  refine AW.cond rfl (fun h1t => ?_) (fun h1f => ?_)
  ·
   try replace h1t := of_decide_eq_true h1t
   simp only [Bool.or_eq_true, Bool.and_eq_true, Bool.or_eq_false_iff, Bool.and_eq_false_iff, Bool.not_eq_true', Bool.not_eq_false', decide_eq_true_eq, decide_eq_false_iff_not, Decidable.not_not] at h1t
   refine AW.regionH (HeldBox b3 (insVals i)) rfl (tells_box (k := 2) rfl) ?_
   refine AWH.tk (i := 0) rfl rfl rfl (B rfl) (heldAll (freeMove rfl (E rfl rfl))) ?_
   refine AWH.tk (i := 1) rfl rfl rfl (B rfl) (heldAll (freeField rfl fo_23_1 (E rfl rfl))) ?_
   refine AWH.tk (i := 2) rfl rfl rfl (B rfl) (heldLoad rfl ag_3 (E rfl rfl) rfl) ?_
   refine AWH.tk (i := 3) rfl rfl rfl (B rfl) (heldAll (freeField rfl fo_23_2 (E rfl rfl))) ?_
   refine AWH.tk (i := 4) rfl rfl rfl (B rfl) (heldLoad rfl ag_3 (E rfl rfl) rfl) ?_
   refine AWH.tk (i := 8) rfl rfl rfl (B rfl) (heldAll (freeField rfl fo_23_1 (E rfl rfl))) ?_
   refine AWH.tk (i := 9) rfl rfl rfl (B rfl) (heldLoad rfl ag_3 (E rfl rfl) rfl) ?_
   refine AWH.tk (i := 10) rfl rfl rfl (B rfl) (heldAll (freeField rfl fo_23_2 (E rfl rfl))) ?_
   refine AWH.tk (i := 11) rfl rfl rfl (B rfl) (heldLoad rfl ag_3 (E rfl rfl) rfl) ?_
   refine AWH.tk (i := 12) rfl rfl rfl (B rfl) (heldAll (freeField rfl fo_23_5 (E rfl rfl))) ?_
   refine AWH.tk (i := 13) rfl rfl rfl (B rfl) (heldLoad rfl ag_2 (E rfl rfl) rfl) ?_
   refine AWH.two (i := 5) (j := 6) (by kernel_rfl) rfl rfl ?_ ?_
   ·
    refine C1 rfl ce_27 (E rfl rfl) (evsC (E rfl rfl) (evsC (E rfl rfl) (evsC (E rfl rfl) (evsC (E rfl rfl) evs0)))) (S1 := CB _ _ _ _) (S2 := [_]) rfl (rex34 _ _ _ _ _ _ _) ?_
    rintro t55 S55 ⟨rfl, A55, c55, rfl⟩
    refine tb 2 rfl ?_
    refine AWH.one (i := 6) (by kernel_rfl) rfl ?_
    refine AWL.buildSlice1 rfl rfl (B rfl) rfl el_43 rfl (evsC (E rfl rfl) (evsC (E rfl rfl) evs0)) (Nat.le_of_ble_eq_true rfl) rfl rfl ?_
    refine tb 2 rfl ?_
    refine AWH.one (i := 7) (by kernel_rfl) rfl ?_
    refine C1 rfl ce_28 (E rfl rfl) (evsC (E rfl rfl) (evsC (E rfl rfl) evs0)) (S1 := CB _ _ _ _) (S2 := [_]) rfl (put35 _ _ _ _ [_, _]) ?_
    rintro t57 S57 ⟨rfl, A57, c57, rfl⟩
    refine tb 2 rfl ?_
    refine AWH.one (i := 14) (by kernel_rfl) rfl ?_
    refine C1 rfl ce_55 (E rfl rfl) (evsC (E rfl rfl) (evsC (E rfl rfl) (evsC (E rfl rfl) (evsC (E rfl rfl) evs0)))) (S1 := CB _ _ _ _) (S2 := [_]) rfl (mem53 _ _ _ _ _ _ _) ?_
    rintro t64 S64 ⟨rfl, A64, c64, rfl⟩
    refine tb 2 rfl ?_
    refine AWH.done (by kernel_rfl) ?_
    refine retN .nil ?_
    refine cbx_end ?_
    rw [memoryF, if_neg h0f, if_pos h1t]
    simp only [List.append_assoc]
    rfl
   ·
    refine AWL.buildSlice1 rfl rfl (B rfl) rfl el_43 rfl (evsC (E rfl rfl) (evsC (E rfl rfl) evs0)) (Nat.le_of_ble_eq_true rfl) rfl rfl ?_
    refine tb 2 rfl ?_
    refine AWH.one (i := 5) (by kernel_rfl) rfl ?_
    refine C1 rfl ce_27 (E rfl rfl) (evsC (E rfl rfl) (evsC (E rfl rfl) (evsC (E rfl rfl) (evsC (E rfl rfl) evs0)))) (S1 := CB _ _ _ _) (S2 := [_]) rfl (rex34 _ _ _ _ _ _ _) ?_
    rintro t55 S55 ⟨rfl, A55, c55, rfl⟩
    refine tb 2 rfl ?_
    refine AWH.one (i := 7) (by kernel_rfl) rfl ?_
    refine C1 rfl ce_28 (E rfl rfl) (evsC (E rfl rfl) (evsC (E rfl rfl) evs0)) (S1 := CB _ _ _ _) (S2 := [_]) rfl (put35 _ _ _ _ [_, _]) ?_
    rintro t57 S57 ⟨rfl, A57, c57, rfl⟩
    refine tb 2 rfl ?_
    refine AWH.one (i := 14) (by kernel_rfl) rfl ?_
    refine C1 rfl ce_55 (E rfl rfl) (evsC (E rfl rfl) (evsC (E rfl rfl) (evsC (E rfl rfl) (evsC (E rfl rfl) evs0)))) (S1 := CB _ _ _ _) (S2 := [_]) rfl (mem53 _ _ _ _ _ _ _) ?_
    rintro t64 S64 ⟨rfl, A64, c64, rfl⟩
    refine tb 2 rfl ?_
    refine AWH.done (by kernel_rfl) ?_
    refine retN .nil ?_
    refine cbx_end ?_
    rw [memoryF, if_neg h0f, if_pos h1t]
    simp only [List.append_assoc]
    rfl
  try replace h1f := of_decide_eq_false h1f
  replace h1f : ¬ (i.kind = 3 ∧ i.size = 1) := by intro hh; simp [hh.1, hh.2] at h1f
  refine AW.rseq ?_
  refine Y1 (Yv.fieldBox rfl fo_23_0 eV) ?_
  refine Y1 (Yv.loadBox rfl ag_3 (i := 2) rfl (E rfl rfl) rfl) ?_
  refine Y1 (Yv.eql rfl eV eV) ?_
  refine Y1 (Yv.assign rfl eV) ?_
  refine nl ?_
  refine AW.cond rfl (fun h2t => ?_) (fun h2f => ?_)
  ·
   try replace h2t := of_decide_eq_true h2t
   refine AW.regionH (HeldBox b3 (insVals i)) rfl (tells_box (k := 2) rfl) ?_
   refine AWH.tk (i := 0) rfl rfl rfl (B rfl) (heldAll (freeMove rfl (E rfl rfl))) ?_
   refine AWH.tk (i := 1) rfl rfl rfl (B rfl) (heldAll (freeField rfl fo_23_4 (E rfl rfl))) ?_
   refine AWH.tk (i := 2) rfl rfl rfl (B rfl) (heldLoad rfl ag_3 (E rfl rfl) rfl) ?_
   refine AWH.tk (i := 4) rfl rfl rfl (B rfl) (heldAll (freeField rfl fo_23_1 (E rfl rfl))) ?_
   refine AWH.tk (i := 5) rfl rfl rfl (B rfl) (heldLoad rfl ag_3 (E rfl rfl) rfl) ?_
   refine AWH.tk (i := 6) rfl rfl rfl (B rfl) (heldAll (freeField rfl fo_23_2 (E rfl rfl))) ?_
   refine AWH.tk (i := 7) rfl rfl rfl (B rfl) (heldLoad rfl ag_3 (E rfl rfl) rfl) ?_
   refine AWH.tk (i := 11) rfl rfl rfl (B rfl) (heldAll (freeField rfl fo_23_1 (E rfl rfl))) ?_
   refine AWH.tk (i := 12) rfl rfl rfl (B rfl) (heldLoad rfl ag_3 (E rfl rfl) rfl) ?_
   refine AWH.tk (i := 13) rfl rfl rfl (B rfl) (heldAll (freeField rfl fo_23_2 (E rfl rfl))) ?_
   refine AWH.tk (i := 14) rfl rfl rfl (B rfl) (heldLoad rfl ag_3 (E rfl rfl) rfl) ?_
   refine AWH.tk (i := 15) rfl rfl rfl (B rfl) (heldAll (freeField rfl fo_23_5 (E rfl rfl))) ?_
   refine AWH.tk (i := 16) rfl rfl rfl (B rfl) (heldLoad rfl ag_2 (E rfl rfl) rfl) ?_
   refine AWH.two (i := 3) (j := 9) (by kernel_rfl) rfl rfl ?_ ?_
   ·
    refine Y1 (Yv.eql rfl eV eV) ?_
    refine tb 2 rfl ?_
    refine AWH.two (i := 8) (j := 9) (by kernel_rfl) rfl rfl ?_ ?_
    ·
     refine C1 rfl ce_27 (E rfl rfl) (evsC (E rfl rfl) (evsC (E rfl rfl) (evsC (E rfl rfl) (evsC (E rfl rfl) evs0)))) (S1 := CB _ _ _ _) (S2 := [_]) rfl (rex34 _ _ _ _ _ _ _) ?_
     rintro t77 S77 ⟨rfl, A77, c77, rfl⟩
     refine tb 2 rfl ?_
     refine AWH.one (i := 9) (by kernel_rfl) rfl ?_
     refine AWL.buildSlice1 rfl rfl (B rfl) rfl el_43 rfl (evsC (E rfl rfl) evs0) (Nat.le_of_ble_eq_true rfl) rfl rfl ?_
     refine tb 2 rfl ?_
     refine AWH.one (i := 10) (by kernel_rfl) rfl ?_
     refine C1 rfl ce_28 (E rfl rfl) (evsC (E rfl rfl) (evsC (E rfl rfl) evs0)) (S1 := CB _ _ _ _) (S2 := [_]) rfl (put35 _ _ _ _ [_]) ?_
     rintro t79 S79 ⟨rfl, A79, c79, rfl⟩
     refine tb 2 rfl ?_
     refine AWH.one (i := 17) (by kernel_rfl) rfl ?_
     refine C1 rfl ce_55 (E rfl rfl) (evsC (E rfl rfl) (evsC (E rfl rfl) (evsC (E rfl rfl) (evsC (E rfl rfl) evs0)))) (S1 := CB _ _ _ _) (S2 := [_]) rfl (mem53 _ _ _ _ _ _ _) ?_
     rintro t86 S86 ⟨rfl, A86, c86, rfl⟩
     refine tb 2 rfl ?_
     refine AWH.done (by kernel_rfl) ?_
     refine retN .nil ?_
     refine cbx_end ?_
     rw [memoryF, if_neg h0f, if_neg h1f, if_pos h2t]
     simp only [List.append_assoc]
     rfl
    ·
     refine AWL.buildSlice1 rfl rfl (B rfl) rfl el_43 rfl (evsC (E rfl rfl) evs0) (Nat.le_of_ble_eq_true rfl) rfl rfl ?_
     refine tb 2 rfl ?_
     refine AWH.one (i := 8) (by kernel_rfl) rfl ?_
     refine C1 rfl ce_27 (E rfl rfl) (evsC (E rfl rfl) (evsC (E rfl rfl) (evsC (E rfl rfl) (evsC (E rfl rfl) evs0)))) (S1 := CB _ _ _ _) (S2 := [_]) rfl (rex34 _ _ _ _ _ _ _) ?_
     rintro t77 S77 ⟨rfl, A77, c77, rfl⟩
     refine tb 2 rfl ?_
     refine AWH.one (i := 10) (by kernel_rfl) rfl ?_
     refine C1 rfl ce_28 (E rfl rfl) (evsC (E rfl rfl) (evsC (E rfl rfl) evs0)) (S1 := CB _ _ _ _) (S2 := [_]) rfl (put35 _ _ _ _ [_]) ?_
     rintro t79 S79 ⟨rfl, A79, c79, rfl⟩
     refine tb 2 rfl ?_
     refine AWH.one (i := 17) (by kernel_rfl) rfl ?_
     refine C1 rfl ce_55 (E rfl rfl) (evsC (E rfl rfl) (evsC (E rfl rfl) (evsC (E rfl rfl) (evsC (E rfl rfl) evs0)))) (S1 := CB _ _ _ _) (S2 := [_]) rfl (mem53 _ _ _ _ _ _ _) ?_
     rintro t86 S86 ⟨rfl, A86, c86, rfl⟩
     refine tb 2 rfl ?_
     refine AWH.done (by kernel_rfl) ?_
     refine retN .nil ?_
     refine cbx_end ?_
     rw [memoryF, if_neg h0f, if_neg h1f, if_pos h2t]
     simp only [List.append_assoc]
     rfl
   ·
    refine AWL.buildSlice1 rfl rfl (B rfl) rfl el_43 rfl (evsC (E rfl rfl) evs0) (Nat.le_of_ble_eq_true rfl) rfl rfl ?_
    refine tb 2 rfl ?_
    refine AWH.one (i := 3) (by kernel_rfl) rfl ?_
    refine Y1 (Yv.eql rfl eV eV) ?_
    refine tb 2 rfl ?_
    refine AWH.one (i := 8) (by kernel_rfl) rfl ?_
    refine C1 rfl ce_27 (E rfl rfl) (evsC (E rfl rfl) (evsC (E rfl rfl) (evsC (E rfl rfl) (evsC (E rfl rfl) evs0)))) (S1 := CB _ _ _ _) (S2 := [_]) rfl (rex34 _ _ _ _ _ _ _) ?_
    rintro t77 S77 ⟨rfl, A77, c77, rfl⟩
    refine tb 2 rfl ?_
    refine AWH.one (i := 10) (by kernel_rfl) rfl ?_
    refine C1 rfl ce_28 (E rfl rfl) (evsC (E rfl rfl) (evsC (E rfl rfl) evs0)) (S1 := CB _ _ _ _) (S2 := [_]) rfl (put35 _ _ _ _ [_]) ?_
    rintro t79 S79 ⟨rfl, A79, c79, rfl⟩
    refine tb 2 rfl ?_
    refine AWH.one (i := 17) (by kernel_rfl) rfl ?_
    refine C1 rfl ce_55 (E rfl rfl) (evsC (E rfl rfl) (evsC (E rfl rfl) (evsC (E rfl rfl) (evsC (E rfl rfl) evs0)))) (S1 := CB _ _ _ _) (S2 := [_]) rfl (mem53 _ _ _ _ _ _ _) ?_
    rintro t86 S86 ⟨rfl, A86, c86, rfl⟩
    refine tb 2 rfl ?_
    refine AWH.done (by kernel_rfl) ?_
    refine retN .nil ?_
    refine cbx_end ?_
    rw [memoryF, if_neg h0f, if_neg h1f, if_pos h2t]
    simp only [List.append_assoc]
    rfl
  try replace h2f := of_decide_eq_false h2f
  refine AW.rseq ?_
  refine Y1 (Yv.fieldBox rfl fo_23_4 eV) ?_
  refine Y1 (Yv.loadBox rfl ag_3 (i := 2) rfl (E rfl rfl) rfl) ?_
  refine Y1 (Yv.eql rfl eV eV) ?_
  refine Y1 (Yv.assign rfl eV) ?_
  refine nl ?_
  refine AW.cond rfl (fun h3t => ?_) (fun h3f => ?_)
  ·
   try replace h3t := of_decide_eq_true h3t
   refine AW.regionH (HeldBox b3 (insVals i)) rfl (tells_box (k := 2) rfl) ?_
   refine AWH.tk (i := 0) rfl rfl rfl (B rfl) (heldAll (freeMove rfl (E rfl rfl))) ?_
   refine AWH.tk (i := 1) rfl rfl rfl (B rfl) (heldAll (freeField rfl fo_23_2 (E rfl rfl))) ?_
   refine AWH.tk (i := 2) rfl rfl rfl (B rfl) (heldLoad rfl ag_3 (E rfl rfl) rfl) ?_
   refine AWH.tk (i := 3) rfl rfl rfl (B rfl) (heldAll (freeField rfl fo_23_1 (E rfl rfl))) ?_
   refine AWH.tk (i := 4) rfl rfl rfl (B rfl) (heldLoad rfl ag_3 (E rfl rfl) rfl) ?_
   refine AWH.tk (i := 8) rfl rfl rfl (B rfl) (heldAll (freeField rfl fo_23_2 (E rfl rfl))) ?_
   refine AWH.tk (i := 9) rfl rfl rfl (B rfl) (heldLoad rfl ag_3 (E rfl rfl) rfl) ?_
   refine AWH.tk (i := 10) rfl rfl rfl (B rfl) (heldAll (freeField rfl fo_23_1 (E rfl rfl))) ?_
   refine AWH.tk (i := 11) rfl rfl rfl (B rfl) (heldLoad rfl ag_3 (E rfl rfl) rfl) ?_
   refine AWH.tk (i := 12) rfl rfl rfl (B rfl) (heldAll (freeField rfl fo_23_5 (E rfl rfl))) ?_
   refine AWH.tk (i := 13) rfl rfl rfl (B rfl) (heldLoad rfl ag_2 (E rfl rfl) rfl) ?_
   refine AWH.two (i := 5) (j := 6) (by kernel_rfl) rfl rfl ?_ ?_
   ·
    refine C1 rfl ce_27 (E rfl rfl) (evsC (E rfl rfl) (evsC (E rfl rfl) (evsC (E rfl rfl) (evsC (E rfl rfl) evs0)))) (S1 := CB _ _ _ _) (S2 := [_]) rfl (rex34 _ _ _ _ _ _ _) ?_
    rintro t96 S96 ⟨rfl, A96, c96, rfl⟩
    refine tb 2 rfl ?_
    refine AWH.one (i := 6) (by kernel_rfl) rfl ?_
    refine AWL.buildSlice1 rfl rfl (B rfl) rfl el_43 rfl (evsC (E rfl rfl) evs0) (Nat.le_of_ble_eq_true rfl) rfl rfl ?_
    refine tb 2 rfl ?_
    refine AWH.one (i := 7) (by kernel_rfl) rfl ?_
    refine C1 rfl ce_28 (E rfl rfl) (evsC (E rfl rfl) (evsC (E rfl rfl) evs0)) (S1 := CB _ _ _ _) (S2 := [_]) rfl (put35 _ _ _ _ [_]) ?_
    rintro t98 S98 ⟨rfl, A98, c98, rfl⟩
    refine tb 2 rfl ?_
    refine AWH.one (i := 14) (by kernel_rfl) rfl ?_
    refine C1 rfl ce_55 (E rfl rfl) (evsC (E rfl rfl) (evsC (E rfl rfl) (evsC (E rfl rfl) (evsC (E rfl rfl) evs0)))) (S1 := CB _ _ _ _) (S2 := [_]) rfl (mem53 _ _ _ _ _ _ _) ?_
    rintro t105 S105 ⟨rfl, A105, c105, rfl⟩
    refine tb 2 rfl ?_
    refine AWH.done (by kernel_rfl) ?_
    refine retN .nil ?_
    refine cbx_end ?_
    rw [memoryF, if_neg h0f, if_neg h1f, if_neg h2f, if_pos h3t]
    simp only [List.append_assoc]
    rfl
   ·
    refine AWL.buildSlice1 rfl rfl (B rfl) rfl el_43 rfl (evsC (E rfl rfl) evs0) (Nat.le_of_ble_eq_true rfl) rfl rfl ?_
    refine tb 2 rfl ?_
    refine AWH.one (i := 5) (by kernel_rfl) rfl ?_
    refine C1 rfl ce_27 (E rfl rfl) (evsC (E rfl rfl) (evsC (E rfl rfl) (evsC (E rfl rfl) (evsC (E rfl rfl) evs0)))) (S1 := CB _ _ _ _) (S2 := [_]) rfl (rex34 _ _ _ _ _ _ _) ?_
    rintro t96 S96 ⟨rfl, A96, c96, rfl⟩
    refine tb 2 rfl ?_
    refine AWH.one (i := 7) (by kernel_rfl) rfl ?_
    refine C1 rfl ce_28 (E rfl rfl) (evsC (E rfl rfl) (evsC (E rfl rfl) evs0)) (S1 := CB _ _ _ _) (S2 := [_]) rfl (put35 _ _ _ _ [_]) ?_
    rintro t98 S98 ⟨rfl, A98, c98, rfl⟩
    refine tb 2 rfl ?_
    refine AWH.one (i := 14) (by kernel_rfl) rfl ?_
    refine C1 rfl ce_55 (E rfl rfl) (evsC (E rfl rfl) (evsC (E rfl rfl) (evsC (E rfl rfl) (evsC (E rfl rfl) evs0)))) (S1 := CB _ _ _ _) (S2 := [_]) rfl (mem53 _ _ _ _ _ _ _) ?_
    rintro t105 S105 ⟨rfl, A105, c105, rfl⟩
    refine tb 2 rfl ?_
    refine AWH.done (by kernel_rfl) ?_
    refine retN .nil ?_
    refine cbx_end ?_
    rw [memoryF, if_neg h0f, if_neg h1f, if_neg h2f, if_pos h3t]
    simp only [List.append_assoc]
    rfl
  try replace h3f := of_decide_eq_false h3f
  refine AW.regionH (HeldBox b3 (insVals i)) rfl (tells_box (k := 2) rfl) ?_
  refine AWH.tk (i := 0) rfl rfl rfl (B rfl) (heldAll (freeMove rfl (E rfl rfl))) ?_
  refine AWH.tk (i := 1) rfl rfl rfl (B rfl) (heldAll (freeField rfl fo_23_4 (E rfl rfl))) ?_
  refine AWH.tk (i := 2) rfl rfl rfl (B rfl) (heldLoad rfl ag_3 (E rfl rfl) rfl) ?_
  refine AWH.tk (i := 4) rfl rfl rfl (B rfl) (heldAll (freeField rfl fo_23_2 (E rfl rfl))) ?_
  refine AWH.tk (i := 5) rfl rfl rfl (B rfl) (heldLoad rfl ag_3 (E rfl rfl) rfl) ?_
  refine AWH.tk (i := 6) rfl rfl rfl (B rfl) (heldAll (freeField rfl fo_23_1 (E rfl rfl))) ?_
  refine AWH.tk (i := 7) rfl rfl rfl (B rfl) (heldLoad rfl ag_3 (E rfl rfl) rfl) ?_
  refine AWH.tk (i := 11) rfl rfl rfl (B rfl) (heldAll (freeField rfl fo_23_2 (E rfl rfl))) ?_
  refine AWH.tk (i := 12) rfl rfl rfl (B rfl) (heldLoad rfl ag_3 (E rfl rfl) rfl) ?_
  refine AWH.tk (i := 13) rfl rfl rfl (B rfl) (heldAll (freeField rfl fo_23_1 (E rfl rfl))) ?_
  refine AWH.tk (i := 14) rfl rfl rfl (B rfl) (heldLoad rfl ag_3 (E rfl rfl) rfl) ?_
  refine AWH.tk (i := 15) rfl rfl rfl (B rfl) (heldAll (freeField rfl fo_23_5 (E rfl rfl))) ?_
  refine AWH.tk (i := 16) rfl rfl rfl (B rfl) (heldLoad rfl ag_2 (E rfl rfl) rfl) ?_
  refine AWH.two (i := 3) (j := 9) (by kernel_rfl) rfl rfl ?_ ?_
  ·
   refine Y1 (Yv.eql rfl eV eV) ?_
   refine tb 2 rfl ?_
   refine AWH.two (i := 8) (j := 9) (by kernel_rfl) rfl rfl ?_ ?_
   ·
    refine C1 rfl ce_27 (E rfl rfl) (evsC (E rfl rfl) (evsC (E rfl rfl) (evsC (E rfl rfl) (evsC (E rfl rfl) evs0)))) (S1 := CB _ _ _ _) (S2 := [_]) rfl (rex34 _ _ _ _ _ _ _) ?_
    rintro t12 S12 ⟨rfl, A12, c12, rfl⟩
    refine tb 2 rfl ?_
    refine AWH.one (i := 9) (by kernel_rfl) rfl ?_
    refine AWL.buildSlice1 rfl rfl (B rfl) rfl el_43 rfl (evsC (E rfl rfl) evs0) (Nat.le_of_ble_eq_true rfl) rfl rfl ?_
    refine tb 2 rfl ?_
    refine AWH.one (i := 10) (by kernel_rfl) rfl ?_
    refine C1 rfl ce_28 (E rfl rfl) (evsC (E rfl rfl) (evsC (E rfl rfl) evs0)) (S1 := CB _ _ _ _) (S2 := [_]) rfl (put35 _ _ _ _ [_]) ?_
    rintro t14 S14 ⟨rfl, A14, c14, rfl⟩
    refine tb 2 rfl ?_
    refine AWH.one (i := 17) (by kernel_rfl) rfl ?_
    refine C1 rfl ce_55 (E rfl rfl) (evsC (E rfl rfl) (evsC (E rfl rfl) (evsC (E rfl rfl) (evsC (E rfl rfl) evs0)))) (S1 := CB _ _ _ _) (S2 := [_]) rfl (mem53 _ _ _ _ _ _ _) ?_
    rintro t21 S21 ⟨rfl, A21, c21, rfl⟩
    refine tb 2 rfl ?_
    refine AWH.done (by kernel_rfl) ?_
    refine retN .nil ?_
    refine cbx_end ?_
    rw [memoryF, if_neg h0f, if_neg h1f, if_neg h2f, if_neg h3f]
    simp only [List.append_assoc]
    rfl
   ·
    refine AWL.buildSlice1 rfl rfl (B rfl) rfl el_43 rfl (evsC (E rfl rfl) evs0) (Nat.le_of_ble_eq_true rfl) rfl rfl ?_
    refine tb 2 rfl ?_
    refine AWH.one (i := 8) (by kernel_rfl) rfl ?_
    refine C1 rfl ce_27 (E rfl rfl) (evsC (E rfl rfl) (evsC (E rfl rfl) (evsC (E rfl rfl) (evsC (E rfl rfl) evs0)))) (S1 := CB _ _ _ _) (S2 := [_]) rfl (rex34 _ _ _ _ _ _ _) ?_
    rintro t12 S12 ⟨rfl, A12, c12, rfl⟩
    refine tb 2 rfl ?_
    refine AWH.one (i := 10) (by kernel_rfl) rfl ?_
    refine C1 rfl ce_28 (E rfl rfl) (evsC (E rfl rfl) (evsC (E rfl rfl) evs0)) (S1 := CB _ _ _ _) (S2 := [_]) rfl (put35 _ _ _ _ [_]) ?_
    rintro t14 S14 ⟨rfl, A14, c14, rfl⟩
    refine tb 2 rfl ?_
    refine AWH.one (i := 17) (by kernel_rfl) rfl ?_
    refine C1 rfl ce_55 (E rfl rfl) (evsC (E rfl rfl) (evsC (E rfl rfl) (evsC (E rfl rfl) (evsC (E rfl rfl) evs0)))) (S1 := CB _ _ _ _) (S2 := [_]) rfl (mem53 _ _ _ _ _ _ _) ?_
    rintro t21 S21 ⟨rfl, A21, c21, rfl⟩
    refine tb 2 rfl ?_
    refine AWH.done (by kernel_rfl) ?_
    refine retN .nil ?_
    refine cbx_end ?_
    rw [memoryF, if_neg h0f, if_neg h1f, if_neg h2f, if_neg h3f]
    simp only [List.append_assoc]
    rfl
  ·
   refine AWL.buildSlice1 rfl rfl (B rfl) rfl el_43 rfl (evsC (E rfl rfl) evs0) (Nat.le_of_ble_eq_true rfl) rfl rfl ?_
   refine tb 2 rfl ?_
   refine AWH.one (i := 3) (by kernel_rfl) rfl ?_
   refine Y1 (Yv.eql rfl eV eV) ?_
   refine tb 2 rfl ?_
   refine AWH.one (i := 8) (by kernel_rfl) rfl ?_
   refine C1 rfl ce_27 (E rfl rfl) (evsC (E rfl rfl) (evsC (E rfl rfl) (evsC (E rfl rfl) (evsC (E rfl rfl) evs0)))) (S1 := CB _ _ _ _) (S2 := [_]) rfl (rex34 _ _ _ _ _ _ _) ?_
   rintro t12 S12 ⟨rfl, A12, c12, rfl⟩
   refine tb 2 rfl ?_
   refine AWH.one (i := 10) (by kernel_rfl) rfl ?_
   refine C1 rfl ce_28 (E rfl rfl) (evsC (E rfl rfl) (evsC (E rfl rfl) evs0)) (S1 := CB _ _ _ _) (S2 := [_]) rfl (put35 _ _ _ _ [_]) ?_
   rintro t14 S14 ⟨rfl, A14, c14, rfl⟩
   refine tb 2 rfl ?_
   refine AWH.one (i := 17) (by kernel_rfl) rfl ?_
   refine C1 rfl ce_55 (E rfl rfl) (evsC (E rfl rfl) (evsC (E rfl rfl) (evsC (E rfl rfl) (evsC (E rfl rfl) evs0)))) (S1 := CB _ _ _ _) (S2 := [_]) rfl (mem53 _ _ _ _ _ _ _) ?_
   rintro t21 S21 ⟨rfl, A21, c21, rfl⟩
   refine tb 2 rfl ?_
   refine AWH.done (by kernel_rfl) ?_
   refine retN .nil ?_
   refine cbx_end ?_
   rw [memoryF, if_neg h0f, if_neg h1f, if_neg h2f, if_neg h3f]
   simp only [List.append_assoc]
   rfl

set_option maxHeartbeats 1000000 in
theorem jump40 (b : Nat) (A : Option Addr) (c : List UInt8) (bs : List UInt8) (i : Ins) (hd : 0 ≤ i.d ∧ i.d ≤ 15) (hs : 0 ≤ i.s ∧ i.s ≤ 15) (hc : 0 ≤ i.cond ∧ i.cond ≤ 15) (hb : bs.length ≤ 800) :
    ACalls Tryd.prog 33 [.v (cp b), insT i] (CB b A c bs) (fun t_ S => ∃ A' c' e, S = CB b A' c' (bs ++ jumpF i) ++ [e]) := by
  obtain ⟨o1, o2, o3, o4⟩ := or_cond i.cond hc
  refine ACalls.intro Tryd.func33 rfl Tryd.ntmps33 (Nat.le_of_ble_eq_true rfl) rfl fun X w0 => ?_
  refine AW.rseq ?_
  refine AWL.boxOp rfl rfl (B rfl) rfl (E rfl rfl) rfl (fun b3 => ?_)
  refine nl ?_
  refine AW.block ?_
  refine AW.rseq ?_
  refine Y1 (Yv.fieldBox rfl fo_23_0 eV) ?_
  refine Y1 (Yv.loadBox rfl ag_3 (i := 2) rfl (E rfl rfl) rfl) ?_
  refine Y1 (Yv.eql rfl eV eV) ?_
  refine Y1 (Yv.assign rfl eV) ?_
  refine nl ?_
  refine AW.cond rfl (fun h0t => ?_) (fun h0f => ?_)
  ·
   try replace h0t := of_decide_eq_true h0t
   refine AW.regionH (HeldBox b3 (insVals i)) rfl (tells_box (k := 2) rfl) ?_
   refine AWH.tk (i := 0) rfl rfl rfl (B rfl) (heldAll (freeMove rfl (E rfl rfl))) ?_
   refine AWH.tk (i := 3) rfl rfl rfl (B rfl) (heldAll (freeField rfl fo_23_5 (E rfl rfl))) ?_
   refine AWH.tk (i := 4) rfl rfl rfl (B rfl) (heldLoad rfl ag_2 (E rfl rfl) rfl) ?_
   refine AWH.one (i := 1) (by kernel_rfl) rfl ?_
   refine AWL.buildSlice1 rfl rfl (B rfl) rfl el_43 rfl (evsC (E rfl rfl) evs0) (Nat.le_of_ble_eq_true rfl) rfl rfl ?_
   refine tb 2 rfl ?_
   refine AWH.one (i := 2) (by kernel_rfl) rfl ?_
   refine C1 rfl ce_28 (E rfl rfl) (evsC (E rfl rfl) (evsC (E rfl rfl) evs0)) (S1 := CB _ _ _ _) (S2 := [_]) rfl (put35 _ _ _ _ [_]) ?_
   rintro t19 S19 ⟨rfl, A19, c19, rfl⟩
   refine tb 2 rfl ?_
   refine AWH.one (i := 5) (by kernel_rfl) rfl ?_
   refine C1 rfl ce_30 (E rfl rfl) (evsC (E rfl rfl) (evsC (E rfl rfl) (evsC (E rfl rfl) evs0))) (S1 := CB _ _ _ _) (S2 := [_]) rfl (imm37 _ _ _ _ _ 4) ?_
   rintro t22 S22 ⟨rfl, A22, c22, rfl⟩
   refine tb 2 rfl ?_
   refine AWH.done (by kernel_rfl) ?_
   refine retN .nil ?_
   refine cbx_end ?_
   rw [jumpF, if_pos h0t]
   skip
   simp only [List.append_assoc]
   rfl
  try replace h0f := of_decide_eq_false h0f
  refine AW.rseq ?_
  refine Y1 (Yv.fieldBox rfl fo_23_0 eV) ?_
  refine Y1 (Yv.loadBox rfl ag_3 (i := 2) rfl (E rfl rfl) rfl) ?_
  refine Y1 (Yv.eql rfl eV eV) ?_
  refine Y1 (Yv.move rfl eV) ?_
  refine AWL.ygT rfl rfl rfl rfl (B rfl) (Yv.fieldBox rfl fo_23_4 (E rfl rfl)) ?_
  refine AWL.ygT rfl rfl rfl rfl (B rfl) (Yv.loadBox rfl ag_3 (i := 2) rfl (Eg rfl rfl id) rfl) ?_
  refine AWL.ygT rfl rfl rfl rfl (B rfl) (Yv.eql rfl (Eg rfl rfl id) (E rfl rfl)) ?_
  refine Y1 (Yv.pickAnd rfl (E rfl rfl) (Eg rfl rfl id)) ?_
  refine Y1 (Yv.assign rfl eV) ?_
  refine nl ?_
  refine AW.cond rfl (fun h1t => ?_) (fun h1f => ?_)
  ·
   try replace h1t := of_decide_eq_true h1t
   simp only [Bool.or_eq_true, Bool.and_eq_true, Bool.or_eq_false_iff, Bool.and_eq_false_iff, Bool.not_eq_true', Bool.not_eq_false', decide_eq_true_eq, decide_eq_false_iff_not, Decidable.not_not] at h1t
   refine AW.regionH (HeldBox b3 (insVals i)) rfl (tells_box (k := 2) rfl) ?_
   refine AWH.tk (i := 0) rfl rfl rfl (B rfl) (heldAll (freeMove rfl (E rfl rfl))) ?_
   refine AWH.tk (i := 3) rfl rfl rfl (B rfl) (heldAll (freeField rfl fo_23_5 (E rfl rfl))) ?_
   refine AWH.tk (i := 4) rfl rfl rfl (B rfl) (heldLoad rfl ag_2 (E rfl rfl) rfl) ?_
   refine AWH.one (i := 1) (by kernel_rfl) rfl ?_
   refine AWL.buildSlice1 rfl rfl (B rfl) rfl el_43 rfl (evsC (E rfl rfl) evs0) (Nat.le_of_ble_eq_true rfl) rfl rfl ?_
   refine tb 2 rfl ?_
   refine AWH.one (i := 2) (by kernel_rfl) rfl ?_
   refine C1 rfl ce_28 (E rfl rfl) (evsC (E rfl rfl) (evsC (E rfl rfl) evs0)) (S1 := CB _ _ _ _) (S2 := [_]) rfl (put35 _ _ _ _ [_]) ?_
   rintro t34 S34 ⟨rfl, A34, c34, rfl⟩
   refine tb 2 rfl ?_
   refine AWH.one (i := 5) (by kernel_rfl) rfl ?_
   refine C1 rfl ce_30 (E rfl rfl) (evsC (E rfl rfl) (evsC (E rfl rfl) (evsC (E rfl rfl) evs0))) (S1 := CB _ _ _ _) (S2 := [_]) rfl (imm37 _ _ _ _ _ 1) ?_
   rintro t37 S37 ⟨rfl, A37, c37, rfl⟩
   refine tb 2 rfl ?_
   refine AWH.done (by kernel_rfl) ?_
   refine retN .nil ?_
   refine cbx_end ?_
   rw [jumpF, if_neg h0f, if_pos h1t]
   skip
   simp only [List.append_assoc]
   rfl
  try replace h1f := of_decide_eq_false h1f
  replace h1f : ¬ (i.kind = 35 ∧ i.size = 1) := by intro hh; simp [hh.1, hh.2] at h1f
  refine AW.rseq ?_
  refine Y1 (Yv.fieldBox rfl fo_23_0 eV) ?_
  refine Y1 (Yv.loadBox rfl ag_3 (i := 2) rfl (E rfl rfl) rfl) ?_
  refine Y1 (Yv.eql rfl eV eV) ?_
  refine Y1 (Yv.assign rfl eV) ?_
  refine nl ?_
  refine AW.cond rfl (fun h2t => ?_) (fun h2f => ?_)
  ·
   try replace h2t := of_decide_eq_true h2t
   refine AW.regionH (HeldBox b3 (insVals i)) rfl (tells_box (k := 2) rfl) ?_
   refine AWH.tk (i := 0) rfl rfl rfl (B rfl) (heldAll (freeMove rfl (E rfl rfl))) ?_
   refine AWH.tk (i := 3) rfl rfl rfl (B rfl) (heldAll (freeField rfl fo_23_5 (E rfl rfl))) ?_
   refine AWH.tk (i := 4) rfl rfl rfl (B rfl) (heldLoad rfl ag_2 (E rfl rfl) rfl) ?_
   refine AWH.one (i := 1) (by kernel_rfl) rfl ?_
   refine AWL.buildSlice1 rfl rfl (B rfl) rfl el_43 rfl (evsC (E rfl rfl) evs0) (Nat.le_of_ble_eq_true rfl) rfl rfl ?_
   refine tb 2 rfl ?_
   refine AWH.one (i := 2) (by kernel_rfl) rfl ?_
   refine C1 rfl ce_28 (E rfl rfl) (evsC (E rfl rfl) (evsC (E rfl rfl) evs0)) (S1 := CB _ _ _ _) (S2 := [_]) rfl (put35 _ _ _ _ [_]) ?_
   rintro t44 S44 ⟨rfl, A44, c44, rfl⟩
   refine tb 2 rfl ?_
   refine AWH.one (i := 5) (by kernel_rfl) rfl ?_
   refine C1 rfl ce_30 (E rfl rfl) (evsC (E rfl rfl) (evsC (E rfl rfl) (evsC (E rfl rfl) evs0))) (S1 := CB _ _ _ _) (S2 := [_]) rfl (imm37 _ _ _ _ _ 4) ?_
   rintro t47 S47 ⟨rfl, A47, c47, rfl⟩
   refine tb 2 rfl ?_
   refine AWH.done (by kernel_rfl) ?_
   refine retN .nil ?_
   refine cbx_end ?_
   rw [jumpF, if_neg h0f, if_neg h1f, if_pos h2t]
   skip
   simp only [List.append_assoc]
   rfl
  try replace h2f := of_decide_eq_false h2f
  refine AW.rseq ?_
  refine Y1 (Yv.fieldBox rfl fo_23_4 eV) ?_
  refine Y1 (Yv.loadBox rfl ag_3 (i := 2) rfl (E rfl rfl) rfl) ?_
  refine Y1 (Yv.eql rfl eV eV) ?_
  refine Y1 (Yv.assign rfl eV) ?_
  refine nl ?_
  refine AW.cond rfl (fun h3t => ?_) (fun h3f => ?_)
  ·
   try replace h3t := of_decide_eq_true h3t
   refine AW.regionH (HeldBox b3 (insVals i)) rfl (tells_box (k := 2) rfl) ?_
   refine AWH.tk (i := 0) rfl rfl rfl (B rfl) (heldAll (freeMove rfl (E rfl rfl))) ?_
   refine AWH.tk (i := 1) rfl rfl rfl (B rfl) (heldAll (freeField rfl fo_23_3 (E rfl rfl))) ?_
   refine AWH.tk (i := 2) rfl rfl rfl (B rfl) (heldLoad rfl ag_3 (E rfl rfl) rfl) ?_
   refine AWH.tk (i := 6) rfl rfl rfl (B rfl) (heldAll (freeField rfl fo_23_5 (E rfl rfl))) ?_
   refine AWH.tk (i := 7) rfl rfl rfl (B rfl) (heldLoad rfl ag_2 (E rfl rfl) rfl) ?_
   refine AWH.one (i := 3) (by kernel_rfl) rfl ?_
   refine Y1 (Yv.bits rfl rfl (E rfl rfl) (E rfl rfl)) ?_
   refine tb 2 rfl ?_
   refine AWH.one (i := 4) (by kernel_rfl) rfl ?_
   refine AWL.buildSlice1 rfl rfl (B rfl) rfl el_43 rfl (evsC (E rfl rfl) evs0) (Nat.le_of_ble_eq_true rfl) rfl rfl ?_
   refine tb 2 rfl ?_
   refine AWH.one (i := 5) (by kernel_rfl) rfl ?_
   refine C1 rfl ce_28 (E rfl rfl) (evsC (E rfl rfl) (evsC (E rfl rfl) evs0)) (S1 := CB _ _ _ _) (S2 := [_]) rfl (put35 _ _ _ _ [_]) ?_
   rintro t57 S57 ⟨rfl, A57, c57, rfl⟩
   refine tb 2 rfl ?_
   refine AWH.one (i := 8) (by kernel_rfl) rfl ?_
   refine C1 rfl ce_30 (E rfl rfl) (evsC (E rfl rfl) (evsC (E rfl rfl) (evsC (E rfl rfl) evs0))) (S1 := CB _ _ _ _) (S2 := [_]) rfl (imm37 _ _ _ _ _ 1) ?_
   rintro t60 S60 ⟨rfl, A60, c60, rfl⟩
   refine tb 2 rfl ?_
   refine AWH.done (by kernel_rfl) ?_
   refine retN .nil ?_
   refine cbx_end ?_
   rw [jumpF, if_neg h0f, if_neg h1f, if_neg h2f, if_pos h3t]
   rw [← o1]
   simp only [List.append_assoc]
   rfl
  try replace h3f := of_decide_eq_false h3f
  refine AW.regionH (HeldBox b3 (insVals i)) rfl (tells_box (k := 2) rfl) ?_
  refine AWH.tk (i := 0) rfl rfl rfl (B rfl) (heldAll (freeMove rfl (E rfl rfl))) ?_
  refine AWH.tk (i := 1) rfl rfl rfl (B rfl) (heldAll (freeField rfl fo_23_3 (E rfl rfl))) ?_
  refine AWH.tk (i := 2) rfl rfl rfl (B rfl) (heldLoad rfl ag_3 (E rfl rfl) rfl) ?_
  refine AWH.tk (i := 6) rfl rfl rfl (B rfl) (heldAll (freeField rfl fo_23_5 (E rfl rfl))) ?_
  refine AWH.tk (i := 7) rfl rfl rfl (B rfl) (heldLoad rfl ag_2 (E rfl rfl) rfl) ?_
  refine AWH.one (i := 3) (by kernel_rfl) rfl ?_
  refine Y1 (Yv.bits rfl rfl (E rfl rfl) (E rfl rfl)) ?_
  refine tb 2 rfl ?_
  refine AWH.one (i := 4) (by kernel_rfl) rfl ?_
  refine AWL.buildSlice1 rfl rfl (B rfl) rfl el_43 rfl (evsC (E rfl rfl) (evsC (E rfl rfl) evs0)) (Nat.le_of_ble_eq_true rfl) rfl rfl ?_
  refine tb 2 rfl ?_
  refine AWH.one (i := 5) (by kernel_rfl) rfl ?_
  refine C1 rfl ce_28 (E rfl rfl) (evsC (E rfl rfl) (evsC (E rfl rfl) evs0)) (S1 := CB _ _ _ _) (S2 := [_]) rfl (put35 _ _ _ _ [_, _]) ?_
  rintro t9 S9 ⟨rfl, A9, c9, rfl⟩
  refine tb 2 rfl ?_
  refine AWH.one (i := 8) (by kernel_rfl) rfl ?_
  refine C1 rfl ce_30 (E rfl rfl) (evsC (E rfl rfl) (evsC (E rfl rfl) (evsC (E rfl rfl) evs0))) (S1 := CB _ _ _ _) (S2 := [_]) rfl (imm37 _ _ _ _ _ 4) ?_
  rintro t12 S12 ⟨rfl, A12, c12, rfl⟩
  refine tb 2 rfl ?_
  refine AWH.done (by kernel_rfl) ?_
  refine retN .nil ?_
  refine cbx_end ?_
  rw [jumpF, if_neg h0f, if_neg h1f, if_neg h2f, if_neg h3f]
  rw [← o2]
  simp only [List.append_assoc]
  rfl

set_option maxHeartbeats 2000000 in
theorem far41 (b : Nat) (A : Option Addr) (c : List UInt8) (bs : List UInt8) (i : Ins) (hd : 0 ≤ i.d ∧ i.d ≤ 15) (hs : 0 ≤ i.s ∧ i.s ≤ 15) (hc : 0 ≤ i.cond ∧ i.cond ≤ 15) (hb : bs.length ≤ 800) (hk : i.kind = 21 ∨ i.kind = 32 ∨ i.kind = 33 ∨ i.kind = 34 ∨ 45 ≤ i.kind ∧ i.kind ≤ 52) :
    ACalls Tryd.prog 34 [.v (cp b), insT i] (CB b A c bs) (fun t_ S => ∃ A' c' e, S = CB b A' c' (bs ++ farF i) ++ [e]) := by
  obtain ⟨o1, o2, o3, o4⟩ := or_cond i.cond hc
  refine ACalls.intro Tryd.func34 rfl Tryd.ntmps34 (Nat.le_of_ble_eq_true rfl) rfl fun X w0 => ?_
  refine AW.rseq ?_
  refine AWL.boxOp rfl rfl (B rfl) rfl (E rfl rfl) rfl (fun b3 => ?_)
  refine nl ?_
  refine AW.rseq ?_
  refine Y1 (Yv.fieldBox rfl fo_23_0 eV) ?_
  refine Y1 (Yv.loadBox rfl ag_3 (i := 2) rfl (E rfl rfl) rfl) ?_
  refine nl ?_
  refine AW.block ?_
  refine AW.rseq ?_
  refine Y1 (Yv.eql rfl eV eV) ?_
  refine Y1 (Yv.assign rfl eV) ?_
  refine nl ?_
  refine AW.cond rfl (fun h0t => ?_) (fun h0f => ?_)
  ·
   try replace h0t := of_decide_eq_true h0t
   refine AW.regionH (HeldBox b3 (insVals i)) rfl (tells_box (k := 2) rfl) ?_
   refine AWH.tk (i := 0) rfl rfl rfl (B rfl) (heldAll (freeMove rfl (E rfl rfl))) ?_
   refine AWH.tk (i := 1) rfl rfl rfl (B rfl) (heldAll (freeField rfl fo_23_1 (E rfl rfl))) ?_
   refine AWH.tk (i := 2) rfl rfl rfl (B rfl) (heldLoad rfl ag_3 (E rfl rfl) rfl) ?_
   refine AWH.tk (i := 3) rfl rfl rfl (B rfl) (heldAll (freeField rfl fo_23_2 (E rfl rfl))) ?_
   refine AWH.tk (i := 4) rfl rfl rfl (B rfl) (heldLoad rfl ag_3 (E rfl rfl) rfl) ?_
   refine AWH.tk (i := 8) rfl rfl rfl (B rfl) (heldAll (freeField rfl fo_23_1 (E rfl rfl))) ?_
   refine AWH.tk (i := 9) rfl rfl rfl (B rfl) (heldLoad rfl ag_3 (E rfl rfl) rfl) ?_
   refine AWH.tk (i := 10) rfl rfl rfl (B rfl) (heldAll (freeField rfl fo_23_2 (E rfl rfl))) ?_
   refine AWH.tk (i := 11) rfl rfl rfl (B rfl) (heldLoad rfl ag_3 (E rfl rfl) rfl) ?_
   refine AWH.two (i := 5) (j := 6) (by kernel_rfl) rfl rfl ?_ ?_
   ·
    refine C1 rfl ce_27 (E rfl rfl) (evsC (E rfl rfl) (evsC (E rfl rfl) (evsC (E rfl rfl) (evsC (E rfl rfl) evs0)))) (S1 := CB _ _ _ _) (S2 := [_]) rfl (rex34 _ _ _ _ _ _ _) ?_
    rintro t13 S13 ⟨rfl, A13, c13, rfl⟩
    refine tb 2 rfl ?_
    refine AWH.one (i := 6) (by kernel_rfl) rfl ?_
    refine AWL.buildSlice1 rfl rfl (B rfl) rfl el_43 rfl (evsC (E rfl rfl) (evsC (E rfl rfl) evs0)) (Nat.le_of_ble_eq_true rfl) rfl rfl ?_
    refine tb 2 rfl ?_
    refine AWH.one (i := 7) (by kernel_rfl) rfl ?_
    refine C1 rfl ce_28 (E rfl rfl) (evsC (E rfl rfl) (evsC (E rfl rfl) evs0)) (S1 := CB _ _ _ _) (S2 := [_]) rfl (put35 _ _ _ _ [_, _]) ?_
    rintro t15 S15 ⟨rfl, A15, c15, rfl⟩
    refine tb 2 rfl ?_
    refine AWH.one (i := 12) (by kernel_rfl) rfl ?_
    refine C1 rfl ce_29 (E rfl rfl) (evsC (E rfl rfl) (evsC (E rfl rfl) (evsC (E rfl rfl) evs0))) (S1 := CB _ _ _ _) (S2 := [_]) rfl (two36 _ _ _ _ _ _) ?_
    rintro t20 S20 ⟨rfl, A20, c20, rfl⟩
    refine tb 2 rfl ?_
    refine AWH.done (by kernel_rfl) ?_
    refine retN .nil ?_
    refine cbx_end ?_
    rw [farF, if_pos h0t]
    skip
    simp only [List.append_assoc]
    rfl
   ·
    refine AWL.buildSlice1 rfl rfl (B rfl) rfl el_43 rfl (evsC (E rfl rfl) (evsC (E rfl rfl) evs0)) (Nat.le_of_ble_eq_true rfl) rfl rfl ?_
    refine tb 2 rfl ?_
    refine AWH.one (i := 5) (by kernel_rfl) rfl ?_
    refine C1 rfl ce_27 (E rfl rfl) (evsC (E rfl rfl) (evsC (E rfl rfl) (evsC (E rfl rfl) (evsC (E rfl rfl) evs0)))) (S1 := CB _ _ _ _) (S2 := [_]) rfl (rex34 _ _ _ _ _ _ _) ?_
    rintro t13 S13 ⟨rfl, A13, c13, rfl⟩
    refine tb 2 rfl ?_
    refine AWH.one (i := 7) (by kernel_rfl) rfl ?_
    refine C1 rfl ce_28 (E rfl rfl) (evsC (E rfl rfl) (evsC (E rfl rfl) evs0)) (S1 := CB _ _ _ _) (S2 := [_]) rfl (put35 _ _ _ _ [_, _]) ?_
    rintro t15 S15 ⟨rfl, A15, c15, rfl⟩
    refine tb 2 rfl ?_
    refine AWH.one (i := 12) (by kernel_rfl) rfl ?_
    refine C1 rfl ce_29 (E rfl rfl) (evsC (E rfl rfl) (evsC (E rfl rfl) (evsC (E rfl rfl) evs0))) (S1 := CB _ _ _ _) (S2 := [_]) rfl (two36 _ _ _ _ _ _) ?_
    rintro t20 S20 ⟨rfl, A20, c20, rfl⟩
    refine tb 2 rfl ?_
    refine AWH.done (by kernel_rfl) ?_
    refine retN .nil ?_
    refine cbx_end ?_
    rw [farF, if_pos h0t]
    skip
    simp only [List.append_assoc]
    rfl
  try replace h0f := of_decide_eq_false h0f
  refine AW.rseq ?_
  refine Y1 (Yv.eql rfl eV eV) ?_
  refine Y1 (Yv.assign rfl eV) ?_
  refine nl ?_
  refine AW.cond rfl (fun h1t => ?_) (fun h1f => ?_)
  ·
   try replace h1t := of_decide_eq_true h1t
   refine AW.regionH (HeldBox b3 (insVals i)) rfl (tells_box (k := 2) rfl) ?_
   refine AWH.tk (i := 0) rfl rfl rfl (B rfl) (heldAll (freeMove rfl (E rfl rfl))) ?_
   refine AWH.tk (i := 1) rfl rfl rfl (B rfl) (heldAll (freeField rfl fo_23_1 (E rfl rfl))) ?_
   refine AWH.tk (i := 2) rfl rfl rfl (B rfl) (heldLoad rfl ag_3 (E rfl rfl) rfl) ?_
   refine AWH.tk (i := 4) rfl rfl rfl (B rfl) (heldAll (freeField rfl fo_23_3 (E rfl rfl))) ?_
   refine AWH.tk (i := 5) rfl rfl rfl (B rfl) (heldLoad rfl ag_3 (E rfl rfl) rfl) ?_
   refine AWH.tk (i := 9) rfl rfl rfl (B rfl) (heldAll (freeField rfl fo_23_1 (E rfl rfl))) ?_
   refine AWH.tk (i := 10) rfl rfl rfl (B rfl) (heldLoad rfl ag_3 (E rfl rfl) rfl) ?_
   refine AWH.two (i := 3) (j := 6) (by kernel_rfl) rfl rfl ?_ ?_
   ·
    refine C1 rfl ce_27 (E rfl rfl) (evsC (E rfl rfl) (evsC (E rfl rfl) (evsC (E rfl rfl) (evsC (E rfl rfl) evs0)))) (S1 := CB _ _ _ _) (S2 := [_]) rfl (rex34 _ _ _ _ _ _ _) ?_
    rintro t26 S26 ⟨rfl, A26, c26, rfl⟩
    refine tb 2 rfl ?_
    refine AWH.one (i := 6) (by kernel_rfl) rfl ?_
    refine Y1 (Yv.bits rfl rfl (E rfl rfl) (E rfl rfl)) ?_
    refine tb 2 rfl ?_
    refine AWH.one (i := 7) (by kernel_rfl) rfl ?_
    refine AWL.buildSlice1 rfl rfl (B rfl) rfl el_43 rfl (evsC (E rfl rfl) (evsC (E rfl rfl) evs0)) (Nat.le_of_ble_eq_true rfl) rfl rfl ?_
    refine tb 2 rfl ?_
    refine AWH.one (i := 8) (by kernel_rfl) rfl ?_
    refine C1 rfl ce_28 (E rfl rfl) (evsC (E rfl rfl) (evsC (E rfl rfl) evs0)) (S1 := CB _ _ _ _) (S2 := [_]) rfl (put35 _ _ _ _ [_, _]) ?_
    rintro t31 S31 ⟨rfl, A31, c31, rfl⟩
    refine tb 2 rfl ?_
    refine AWH.one (i := 11) (by kernel_rfl) rfl ?_
    refine C1 rfl ce_29 (E rfl rfl) (evsC (E rfl rfl) (evsC (E rfl rfl) (evsC (E rfl rfl) evs0))) (S1 := CB _ _ _ _) (S2 := [_]) rfl (two36 _ _ _ _ _ _) ?_
    rintro t34 S34 ⟨rfl, A34, c34, rfl⟩
    refine tb 2 rfl ?_
    refine AWH.done (by kernel_rfl) ?_
    refine retN .nil ?_
    refine cbx_end ?_
    rw [farF, if_neg h0f, if_pos h1t]
    rw [← o3]
    simp only [List.append_assoc]
    rfl
   ·
    refine Y1 (Yv.bits rfl rfl (E rfl rfl) (E rfl rfl)) ?_
    refine tb 2 rfl ?_
    refine AWH.two (i := 3) (j := 7) (by kernel_rfl) rfl rfl ?_ ?_
    ·
     refine C1 rfl ce_27 (E rfl rfl) (evsC (E rfl rfl) (evsC (E rfl rfl) (evsC (E rfl rfl) (evsC (E rfl rfl) evs0)))) (S1 := CB _ _ _ _) (S2 := [_]) rfl (rex34 _ _ _ _ _ _ _) ?_
     rintro t26 S26 ⟨rfl, A26, c26, rfl⟩
     refine tb 2 rfl ?_
     refine AWH.one (i := 7) (by kernel_rfl) rfl ?_
     refine AWL.buildSlice1 rfl rfl (B rfl) rfl el_43 rfl (evsC (E rfl rfl) (evsC (E rfl rfl) evs0)) (Nat.le_of_ble_eq_true rfl) rfl rfl ?_
     refine tb 2 rfl ?_
     refine AWH.one (i := 8) (by kernel_rfl) rfl ?_
     refine C1 rfl ce_28 (E rfl rfl) (evsC (E rfl rfl) (evsC (E rfl rfl) evs0)) (S1 := CB _ _ _ _) (S2 := [_]) rfl (put35 _ _ _ _ [_, _]) ?_
     rintro t31 S31 ⟨rfl, A31, c31, rfl⟩
     refine tb 2 rfl ?_
     refine AWH.one (i := 11) (by kernel_rfl) rfl ?_
     refine C1 rfl ce_29 (E rfl rfl) (evsC (E rfl rfl) (evsC (E rfl rfl) (evsC (E rfl rfl) evs0))) (S1 := CB _ _ _ _) (S2 := [_]) rfl (two36 _ _ _ _ _ _) ?_
     rintro t34 S34 ⟨rfl, A34, c34, rfl⟩
     refine tb 2 rfl ?_
     refine AWH.done (by kernel_rfl) ?_
     refine retN .nil ?_
     refine cbx_end ?_
     rw [farF, if_neg h0f, if_pos h1t]
     rw [← o3]
     simp only [List.append_assoc]
     rfl
    ·
     refine AWL.buildSlice1 rfl rfl (B rfl) rfl el_43 rfl (evsC (E rfl rfl) (evsC (E rfl rfl) evs0)) (Nat.le_of_ble_eq_true rfl) rfl rfl ?_
     refine tb 2 rfl ?_
     refine AWH.one (i := 3) (by kernel_rfl) rfl ?_
     refine C1 rfl ce_27 (E rfl rfl) (evsC (E rfl rfl) (evsC (E rfl rfl) (evsC (E rfl rfl) (evsC (E rfl rfl) evs0)))) (S1 := CB _ _ _ _) (S2 := [_]) rfl (rex34 _ _ _ _ _ _ _) ?_
     rintro t26 S26 ⟨rfl, A26, c26, rfl⟩
     refine tb 2 rfl ?_
     refine AWH.one (i := 8) (by kernel_rfl) rfl ?_
     refine C1 rfl ce_28 (E rfl rfl) (evsC (E rfl rfl) (evsC (E rfl rfl) evs0)) (S1 := CB _ _ _ _) (S2 := [_]) rfl (put35 _ _ _ _ [_, _]) ?_
     rintro t31 S31 ⟨rfl, A31, c31, rfl⟩
     refine tb 2 rfl ?_
     refine AWH.one (i := 11) (by kernel_rfl) rfl ?_
     refine C1 rfl ce_29 (E rfl rfl) (evsC (E rfl rfl) (evsC (E rfl rfl) (evsC (E rfl rfl) evs0))) (S1 := CB _ _ _ _) (S2 := [_]) rfl (two36 _ _ _ _ _ _) ?_
     rintro t34 S34 ⟨rfl, A34, c34, rfl⟩
     refine tb 2 rfl ?_
     refine AWH.done (by kernel_rfl) ?_
     refine retN .nil ?_
     refine cbx_end ?_
     rw [farF, if_neg h0f, if_pos h1t]
     rw [← o3]
     simp only [List.append_assoc]
     rfl
  try replace h1f := of_decide_eq_false h1f
  refine AW.rseq ?_
  refine Y1 (Yv.eql rfl eV eV) ?_
  refine Y1 (Yv.assign rfl eV) ?_
  refine nl ?_
  refine AW.cond rfl (fun h2t => ?_) (fun h2f => ?_)
  ·
   try replace h2t := of_decide_eq_true h2t
   refine AW.regionH (HeldBox b3 (insVals i)) rfl (tells_box (k := 2) rfl) ?_
   refine AWH.tk (i := 0) rfl rfl rfl (B rfl) (heldAll (freeMove rfl (E rfl rfl))) ?_
   refine AWH.tk (i := 1) rfl rfl rfl (B rfl) (heldAll (freeField rfl fo_23_1 (E rfl rfl))) ?_
   refine AWH.tk (i := 2) rfl rfl rfl (B rfl) (heldLoad rfl ag_3 (E rfl rfl) rfl) ?_
   refine AWH.tk (i := 3) rfl rfl rfl (B rfl) (heldAll (freeField rfl fo_23_2 (E rfl rfl))) ?_
   refine AWH.tk (i := 4) rfl rfl rfl (B rfl) (heldLoad rfl ag_3 (E rfl rfl) rfl) ?_
   refine AWH.tk (i := 8) rfl rfl rfl (B rfl) (heldAll (freeField rfl fo_23_1 (E rfl rfl))) ?_
   refine AWH.tk (i := 9) rfl rfl rfl (B rfl) (heldLoad rfl ag_3 (E rfl rfl) rfl) ?_
   refine AWH.tk (i := 10) rfl rfl rfl (B rfl) (heldAll (freeField rfl fo_23_2 (E rfl rfl))) ?_
   refine AWH.tk (i := 11) rfl rfl rfl (B rfl) (heldLoad rfl ag_3 (E rfl rfl) rfl) ?_
   refine AWH.two (i := 5) (j := 6) (by kernel_rfl) rfl rfl ?_ ?_
   ·
    refine C1 rfl ce_27 (E rfl rfl) (evsC (E rfl rfl) (evsC (E rfl rfl) (evsC (E rfl rfl) (evsC (E rfl rfl) evs0)))) (S1 := CB _ _ _ _) (S2 := [_]) rfl (rex34 _ _ _ _ _ _ _) ?_
    rintro t42 S42 ⟨rfl, A42, c42, rfl⟩
    refine tb 2 rfl ?_
    refine AWH.one (i := 6) (by kernel_rfl) rfl ?_
    refine AWL.buildSlice1 rfl rfl (B rfl) rfl el_43 rfl (evsC (E rfl rfl) (evsC (E rfl rfl) evs0)) (Nat.le_of_ble_eq_true rfl) rfl rfl ?_
    refine tb 2 rfl ?_
    refine AWH.one (i := 7) (by kernel_rfl) rfl ?_
    refine C1 rfl ce_28 (E rfl rfl) (evsC (E rfl rfl) (evsC (E rfl rfl) evs0)) (S1 := CB _ _ _ _) (S2 := [_]) rfl (put35 _ _ _ _ [_, _]) ?_
    rintro t44 S44 ⟨rfl, A44, c44, rfl⟩
    refine tb 2 rfl ?_
    refine AWH.one (i := 12) (by kernel_rfl) rfl ?_
    refine C1 rfl ce_29 (E rfl rfl) (evsC (E rfl rfl) (evsC (E rfl rfl) (evsC (E rfl rfl) evs0))) (S1 := CB _ _ _ _) (S2 := [_]) rfl (two36 _ _ _ _ _ _) ?_
    rintro t49 S49 ⟨rfl, A49, c49, rfl⟩
    refine tb 2 rfl ?_
    refine AWH.done (by kernel_rfl) ?_
    refine retN .nil ?_
    refine cbx_end ?_
    rw [farF, if_neg h0f, if_neg h1f, if_pos h2t]
    skip
    simp only [List.append_assoc]
    rfl
   ·
    refine AWL.buildSlice1 rfl rfl (B rfl) rfl el_43 rfl (evsC (E rfl rfl) (evsC (E rfl rfl) evs0)) (Nat.le_of_ble_eq_true rfl) rfl rfl ?_
    refine tb 2 rfl ?_
    refine AWH.one (i := 5) (by kernel_rfl) rfl ?_
    refine C1 rfl ce_27 (E rfl rfl) (evsC (E rfl rfl) (evsC (E rfl rfl) (evsC (E rfl rfl) (evsC (E rfl rfl) evs0)))) (S1 := CB _ _ _ _) (S2 := [_]) rfl (rex34 _ _ _ _ _ _ _) ?_
    rintro t42 S42 ⟨rfl, A42, c42, rfl⟩
    refine tb 2 rfl ?_
    refine AWH.one (i := 7) (by kernel_rfl) rfl ?_
    refine C1 rfl ce_28 (E rfl rfl) (evsC (E rfl rfl) (evsC (E rfl rfl) evs0)) (S1 := CB _ _ _ _) (S2 := [_]) rfl (put35 _ _ _ _ [_, _]) ?_
    rintro t44 S44 ⟨rfl, A44, c44, rfl⟩
    refine tb 2 rfl ?_
    refine AWH.one (i := 12) (by kernel_rfl) rfl ?_
    refine C1 rfl ce_29 (E rfl rfl) (evsC (E rfl rfl) (evsC (E rfl rfl) (evsC (E rfl rfl) evs0))) (S1 := CB _ _ _ _) (S2 := [_]) rfl (two36 _ _ _ _ _ _) ?_
    rintro t49 S49 ⟨rfl, A49, c49, rfl⟩
    refine tb 2 rfl ?_
    refine AWH.done (by kernel_rfl) ?_
    refine retN .nil ?_
    refine cbx_end ?_
    rw [farF, if_neg h0f, if_neg h1f, if_pos h2t]
    skip
    simp only [List.append_assoc]
    rfl
  try replace h2f := of_decide_eq_false h2f
  refine AW.rseq ?_
  refine Y1 (Yv.eql rfl eV eV) ?_
  refine Y1 (Yv.assign rfl eV) ?_
  refine nl ?_
  refine AW.cond rfl (fun h3t => ?_) (fun h3f => ?_)
  ·
   try replace h3t := of_decide_eq_true h3t
   refine AW.regionH (HeldBox b3 (insVals i)) rfl (tells_box (k := 2) rfl) ?_
   refine AWH.tk (i := 0) rfl rfl rfl (B rfl) (heldAll (freeMove rfl (E rfl rfl))) ?_
   refine AWH.tk (i := 1) rfl rfl rfl (B rfl) (heldAll (freeField rfl fo_23_1 (E rfl rfl))) ?_
   refine AWH.tk (i := 2) rfl rfl rfl (B rfl) (heldLoad rfl ag_3 (E rfl rfl) rfl) ?_
   refine AWH.tk (i := 3) rfl rfl rfl (B rfl) (heldAll (freeField rfl fo_23_2 (E rfl rfl))) ?_
   refine AWH.tk (i := 4) rfl rfl rfl (B rfl) (heldLoad rfl ag_3 (E rfl rfl) rfl) ?_
   refine AWH.tk (i := 6) rfl rfl rfl (B rfl) (heldAll (freeField rfl fo_23_3 (E rfl rfl))) ?_
   refine AWH.tk (i := 7) rfl rfl rfl (B rfl) (heldLoad rfl ag_3 (E rfl rfl) rfl) ?_
   refine AWH.tk (i := 11) rfl rfl rfl (B rfl) (heldAll (freeField rfl fo_23_1 (E rfl rfl))) ?_
   refine AWH.tk (i := 12) rfl rfl rfl (B rfl) (heldLoad rfl ag_3 (E rfl rfl) rfl) ?_
   refine AWH.tk (i := 13) rfl rfl rfl (B rfl) (heldAll (freeField rfl fo_23_2 (E rfl rfl))) ?_
   refine AWH.tk (i := 14) rfl rfl rfl (B rfl) (heldLoad rfl ag_3 (E rfl rfl) rfl) ?_
   refine AWH.two (i := 5) (j := 8) (by kernel_rfl) rfl rfl ?_ ?_
   ·
    refine C1 rfl ce_27 (E rfl rfl) (evsC (E rfl rfl) (evsC (E rfl rfl) (evsC (E rfl rfl) (evsC (E rfl rfl) evs0)))) (S1 := CB _ _ _ _) (S2 := [_]) rfl (rex34 _ _ _ _ _ _ _) ?_
    rintro t57 S57 ⟨rfl, A57, c57, rfl⟩
    refine tb 2 rfl ?_
    refine AWH.one (i := 8) (by kernel_rfl) rfl ?_
    refine Y1 (Yv.bits rfl rfl (E rfl rfl) (E rfl rfl)) ?_
    refine tb 2 rfl ?_
    refine AWH.one (i := 9) (by kernel_rfl) rfl ?_
    refine AWL.buildSlice1 rfl rfl (B rfl) rfl el_43 rfl (evsC (E rfl rfl) (evsC (E rfl rfl) evs0)) (Nat.le_of_ble_eq_true rfl) rfl rfl ?_
    refine tb 2 rfl ?_
    refine AWH.one (i := 10) (by kernel_rfl) rfl ?_
    refine C1 rfl ce_28 (E rfl rfl) (evsC (E rfl rfl) (evsC (E rfl rfl) evs0)) (S1 := CB _ _ _ _) (S2 := [_]) rfl (put35 _ _ _ _ [_, _]) ?_
    rintro t62 S62 ⟨rfl, A62, c62, rfl⟩
    refine tb 2 rfl ?_
    refine AWH.one (i := 15) (by kernel_rfl) rfl ?_
    refine C1 rfl ce_29 (E rfl rfl) (evsC (E rfl rfl) (evsC (E rfl rfl) (evsC (E rfl rfl) evs0))) (S1 := CB _ _ _ _) (S2 := [_]) rfl (two36 _ _ _ _ _ _) ?_
    rintro t67 S67 ⟨rfl, A67, c67, rfl⟩
    refine tb 2 rfl ?_
    refine AWH.done (by kernel_rfl) ?_
    refine retN .nil ?_
    refine cbx_end ?_
    rw [farF, if_neg h0f, if_neg h1f, if_neg h2f, if_pos h3t]
    rw [← o4]
    simp only [List.append_assoc]
    rfl
   ·
    refine Y1 (Yv.bits rfl rfl (E rfl rfl) (E rfl rfl)) ?_
    refine tb 2 rfl ?_
    refine AWH.two (i := 5) (j := 9) (by kernel_rfl) rfl rfl ?_ ?_
    ·
     refine C1 rfl ce_27 (E rfl rfl) (evsC (E rfl rfl) (evsC (E rfl rfl) (evsC (E rfl rfl) (evsC (E rfl rfl) evs0)))) (S1 := CB _ _ _ _) (S2 := [_]) rfl (rex34 _ _ _ _ _ _ _) ?_
     rintro t57 S57 ⟨rfl, A57, c57, rfl⟩
     refine tb 2 rfl ?_
     refine AWH.one (i := 9) (by kernel_rfl) rfl ?_
     refine AWL.buildSlice1 rfl rfl (B rfl) rfl el_43 rfl (evsC (E rfl rfl) (evsC (E rfl rfl) evs0)) (Nat.le_of_ble_eq_true rfl) rfl rfl ?_
     refine tb 2 rfl ?_
     refine AWH.one (i := 10) (by kernel_rfl) rfl ?_
     refine C1 rfl ce_28 (E rfl rfl) (evsC (E rfl rfl) (evsC (E rfl rfl) evs0)) (S1 := CB _ _ _ _) (S2 := [_]) rfl (put35 _ _ _ _ [_, _]) ?_
     rintro t62 S62 ⟨rfl, A62, c62, rfl⟩
     refine tb 2 rfl ?_
     refine AWH.one (i := 15) (by kernel_rfl) rfl ?_
     refine C1 rfl ce_29 (E rfl rfl) (evsC (E rfl rfl) (evsC (E rfl rfl) (evsC (E rfl rfl) evs0))) (S1 := CB _ _ _ _) (S2 := [_]) rfl (two36 _ _ _ _ _ _) ?_
     rintro t67 S67 ⟨rfl, A67, c67, rfl⟩
     refine tb 2 rfl ?_
     refine AWH.done (by kernel_rfl) ?_
     refine retN .nil ?_
     refine cbx_end ?_
     rw [farF, if_neg h0f, if_neg h1f, if_neg h2f, if_pos h3t]
     rw [← o4]
     simp only [List.append_assoc]
     rfl
    ·
     refine AWL.buildSlice1 rfl rfl (B rfl) rfl el_43 rfl (evsC (E rfl rfl) (evsC (E rfl rfl) evs0)) (Nat.le_of_ble_eq_true rfl) rfl rfl ?_
     refine tb 2 rfl ?_
     refine AWH.one (i := 5) (by kernel_rfl) rfl ?_
     refine C1 rfl ce_27 (E rfl rfl) (evsC (E rfl rfl) (evsC (E rfl rfl) (evsC (E rfl rfl) (evsC (E rfl rfl) evs0)))) (S1 := CB _ _ _ _) (S2 := [_]) rfl (rex34 _ _ _ _ _ _ _) ?_
     rintro t57 S57 ⟨rfl, A57, c57, rfl⟩
     refine tb 2 rfl ?_
     refine AWH.one (i := 10) (by kernel_rfl) rfl ?_
     refine C1 rfl ce_28 (E rfl rfl) (evsC (E rfl rfl) (evsC (E rfl rfl) evs0)) (S1 := CB _ _ _ _) (S2 := [_]) rfl (put35 _ _ _ _ [_, _]) ?_
     rintro t62 S62 ⟨rfl, A62, c62, rfl⟩
     refine tb 2 rfl ?_
     refine AWH.one (i := 15) (by kernel_rfl) rfl ?_
     refine C1 rfl ce_29 (E rfl rfl) (evsC (E rfl rfl) (evsC (E rfl rfl) (evsC (E rfl rfl) evs0))) (S1 := CB _ _ _ _) (S2 := [_]) rfl (two36 _ _ _ _ _ _) ?_
     rintro t67 S67 ⟨rfl, A67, c67, rfl⟩
     refine tb 2 rfl ?_
     refine AWH.done (by kernel_rfl) ?_
     refine retN .nil ?_
     refine cbx_end ?_
     rw [farF, if_neg h0f, if_neg h1f, if_neg h2f, if_pos h3t]
     rw [← o4]
     simp only [List.append_assoc]
     rfl
  try replace h3f := of_decide_eq_false h3f
  refine AW.rseq ?_
  refine Y1 (Yv.eql rfl eV eV) ?_
  refine Y1 (Yv.assign rfl eV) ?_
  refine nl ?_
  refine AW.cond rfl (fun h4t => ?_) (fun h4f => ?_)
  ·
   try replace h4t := of_decide_eq_true h4t
   refine AW.regionH (HeldBox b3 (insVals i)) rfl (tells_box (k := 2) rfl) ?_
   refine AWH.tk (i := 0) rfl rfl rfl (B rfl) (heldAll (freeMove rfl (E rfl rfl))) ?_
   refine AWH.tk (i := 3) rfl rfl rfl (B rfl) (heldAll (freeField rfl fo_23_1 (E rfl rfl))) ?_
   refine AWH.tk (i := 4) rfl rfl rfl (B rfl) (heldLoad rfl ag_3 (E rfl rfl) rfl) ?_
   refine AWH.tk (i := 5) rfl rfl rfl (B rfl) (heldAll (freeField rfl fo_23_2 (E rfl rfl))) ?_
   refine AWH.tk (i := 6) rfl rfl rfl (B rfl) (heldLoad rfl ag_3 (E rfl rfl) rfl) ?_
   refine AWH.tk (i := 10) rfl rfl rfl (B rfl) (heldAll (freeField rfl fo_23_1 (E rfl rfl))) ?_
   refine AWH.tk (i := 11) rfl rfl rfl (B rfl) (heldLoad rfl ag_3 (E rfl rfl) rfl) ?_
   refine AWH.tk (i := 12) rfl rfl rfl (B rfl) (heldAll (freeField rfl fo_23_2 (E rfl rfl))) ?_
   refine AWH.tk (i := 13) rfl rfl rfl (B rfl) (heldLoad rfl ag_3 (E rfl rfl) rfl) ?_
   refine AWH.two (i := 1) (j := 8) (by kernel_rfl) rfl rfl ?_ ?_
   ·
    refine AWL.buildSlice1 rfl rfl (B rfl) rfl el_43 rfl (evsC (E rfl rfl) evs0) (Nat.le_of_ble_eq_true rfl) rfl rfl ?_
    refine tb 2 rfl ?_
    refine AWH.two (i := 2) (j := 8) (by kernel_rfl) rfl rfl ?_ ?_
    ·
     refine C1 rfl ce_28 (E rfl rfl) (evsC (E rfl rfl) (evsC (E rfl rfl) evs0)) (S1 := CB _ _ _ _) (S2 := [_]) rfl (put35 _ _ _ _ [_]) ?_
     rintro t72 S72 ⟨rfl, A72, c72, rfl⟩
     refine tb 2 rfl ?_
     refine AWH.two (i := 7) (j := 8) (by kernel_rfl) rfl rfl ?_ ?_
     ·
      refine C1 rfl ce_27 (E rfl rfl) (evsC (E rfl rfl) (evsC (E rfl rfl) (evsC (E rfl rfl) (evsC (E rfl rfl) evs0)))) (S1 := CB _ _ _ _) (S2 := [_]) rfl (rex34 _ _ _ _ _ _ _) ?_
      rintro t77 S77 ⟨rfl, A77, c77, rfl⟩
      refine tb 2 rfl ?_
      refine AWH.one (i := 8) (by kernel_rfl) rfl ?_
      refine AWL.buildSlice1 rfl rfl (B rfl) rfl el_43 rfl (evsC (E rfl rfl) (evsC (E rfl rfl) evs0)) (Nat.le_of_ble_eq_true rfl) rfl rfl ?_
      refine tb 2 rfl ?_
      refine AWH.one (i := 9) (by kernel_rfl) rfl ?_
      refine C1 rfl ce_28 (E rfl rfl) (evsC (E rfl rfl) (evsC (E rfl rfl) evs0)) (S1 := CB _ _ _ _) (S2 := [_]) rfl (put35 _ _ _ _ [_, _]) ?_
      rintro t79 S79 ⟨rfl, A79, c79, rfl⟩
      refine tb 2 rfl ?_
      refine AWH.one (i := 14) (by kernel_rfl) rfl ?_
      refine C1 rfl ce_29 (E rfl rfl) (evsC (E rfl rfl) (evsC (E rfl rfl) (evsC (E rfl rfl) evs0))) (S1 := CB _ _ _ _) (S2 := [_]) rfl (two36 _ _ _ _ _ _) ?_
      rintro t84 S84 ⟨rfl, A84, c84, rfl⟩
      refine tb 2 rfl ?_
      refine AWH.done (by kernel_rfl) ?_
      refine retN .nil ?_
      refine cbx_end ?_
      rw [farF, if_neg h0f, if_neg h1f, if_neg h2f, if_neg h3f, if_pos h4t]
      skip
      simp only [List.append_assoc]
      rfl
     ·
      refine AWL.buildSlice1 rfl rfl (B rfl) rfl el_43 rfl (evsC (E rfl rfl) (evsC (E rfl rfl) evs0)) (Nat.le_of_ble_eq_true rfl) rfl rfl ?_
      refine tb 2 rfl ?_
      refine AWH.one (i := 7) (by kernel_rfl) rfl ?_
      refine C1 rfl ce_27 (E rfl rfl) (evsC (E rfl rfl) (evsC (E rfl rfl) (evsC (E rfl rfl) (evsC (E rfl rfl) evs0)))) (S1 := CB _ _ _ _) (S2 := [_]) rfl (rex34 _ _ _ _ _ _ _) ?_
      rintro t77 S77 ⟨rfl, A77, c77, rfl⟩
      refine tb 2 rfl ?_
      refine AWH.one (i := 9) (by kernel_rfl) rfl ?_
      refine C1 rfl ce_28 (E rfl rfl) (evsC (E rfl rfl) (evsC (E rfl rfl) evs0)) (S1 := CB _ _ _ _) (S2 := [_]) rfl (put35 _ _ _ _ [_, _]) ?_
      rintro t79 S79 ⟨rfl, A79, c79, rfl⟩
      refine tb 2 rfl ?_
      refine AWH.one (i := 14) (by kernel_rfl) rfl ?_
      refine C1 rfl ce_29 (E rfl rfl) (evsC (E rfl rfl) (evsC (E rfl rfl) (evsC (E rfl rfl) evs0))) (S1 := CB _ _ _ _) (S2 := [_]) rfl (two36 _ _ _ _ _ _) ?_
      rintro t84 S84 ⟨rfl, A84, c84, rfl⟩
      refine tb 2 rfl ?_
      refine AWH.done (by kernel_rfl) ?_
      refine retN .nil ?_
      refine cbx_end ?_
      rw [farF, if_neg h0f, if_neg h1f, if_neg h2f, if_neg h3f, if_pos h4t]
      skip
      simp only [List.append_assoc]
      rfl
    ·
     refine AWL.buildSlice1 rfl rfl (B rfl) rfl el_43 rfl (evsC (E rfl rfl) (evsC (E rfl rfl) evs0)) (Nat.le_of_ble_eq_true rfl) rfl rfl ?_
     refine tb 2 rfl ?_
     refine AWH.one (i := 2) (by kernel_rfl) rfl ?_
     refine C1 rfl ce_28 (E rfl rfl) (evsC (E rfl rfl) (evsC (E rfl rfl) evs0)) (S1 := CB _ _ _ _) (S2 := [_]) rfl (put35 _ _ _ _ [_]) ?_
     rintro t72 S72 ⟨rfl, A72, c72, rfl⟩
     refine tb 2 rfl ?_
     refine AWH.one (i := 7) (by kernel_rfl) rfl ?_
     refine C1 rfl ce_27 (E rfl rfl) (evsC (E rfl rfl) (evsC (E rfl rfl) (evsC (E rfl rfl) (evsC (E rfl rfl) evs0)))) (S1 := CB _ _ _ _) (S2 := [_]) rfl (rex34 _ _ _ _ _ _ _) ?_
     rintro t77 S77 ⟨rfl, A77, c77, rfl⟩
     refine tb 2 rfl ?_
     refine AWH.one (i := 9) (by kernel_rfl) rfl ?_
     refine C1 rfl ce_28 (E rfl rfl) (evsC (E rfl rfl) (evsC (E rfl rfl) evs0)) (S1 := CB _ _ _ _) (S2 := [_]) rfl (put35 _ _ _ _ [_, _]) ?_
     rintro t79 S79 ⟨rfl, A79, c79, rfl⟩
     refine tb 2 rfl ?_
     refine AWH.one (i := 14) (by kernel_rfl) rfl ?_
     refine C1 rfl ce_29 (E rfl rfl) (evsC (E rfl rfl) (evsC (E rfl rfl) (evsC (E rfl rfl) evs0))) (S1 := CB _ _ _ _) (S2 := [_]) rfl (two36 _ _ _ _ _ _) ?_
     rintro t84 S84 ⟨rfl, A84, c84, rfl⟩
     refine tb 2 rfl ?_
     refine AWH.done (by kernel_rfl) ?_
     refine retN .nil ?_
     refine cbx_end ?_
     rw [farF, if_neg h0f, if_neg h1f, if_neg h2f, if_neg h3f, if_pos h4t]
     skip
     simp only [List.append_assoc]
     rfl
   ·
    refine AWL.buildSlice1 rfl rfl (B rfl) rfl el_43 rfl (evsC (E rfl rfl) (evsC (E rfl rfl) evs0)) (Nat.le_of_ble_eq_true rfl) rfl rfl ?_
    refine tb 2 rfl ?_
    refine AWH.one (i := 1) (by kernel_rfl) rfl ?_
    refine AWL.buildSlice1 rfl rfl (B rfl) rfl el_43 rfl (evsC (E rfl rfl) evs0) (Nat.le_of_ble_eq_true rfl) rfl rfl ?_
    refine tb 2 rfl ?_
    refine AWH.one (i := 2) (by kernel_rfl) rfl ?_
    refine C1 rfl ce_28 (E rfl rfl) (evsC (E rfl rfl) (evsC (E rfl rfl) evs0)) (S1 := CB _ _ _ _) (S2 := [_]) rfl (put35 _ _ _ _ [_]) ?_
    rintro t72 S72 ⟨rfl, A72, c72, rfl⟩
    refine tb 2 rfl ?_
    refine AWH.one (i := 7) (by kernel_rfl) rfl ?_
    refine C1 rfl ce_27 (E rfl rfl) (evsC (E rfl rfl) (evsC (E rfl rfl) (evsC (E rfl rfl) (evsC (E rfl rfl) evs0)))) (S1 := CB _ _ _ _) (S2 := [_]) rfl (rex34 _ _ _ _ _ _ _) ?_
    rintro t77 S77 ⟨rfl, A77, c77, rfl⟩
    refine tb 2 rfl ?_
    refine AWH.one (i := 9) (by kernel_rfl) rfl ?_
    refine C1 rfl ce_28 (E rfl rfl) (evsC (E rfl rfl) (evsC (E rfl rfl) evs0)) (S1 := CB _ _ _ _) (S2 := [_]) rfl (put35 _ _ _ _ [_, _]) ?_
    rintro t79 S79 ⟨rfl, A79, c79, rfl⟩
    refine tb 2 rfl ?_
    refine AWH.one (i := 14) (by kernel_rfl) rfl ?_
    refine C1 rfl ce_29 (E rfl rfl) (evsC (E rfl rfl) (evsC (E rfl rfl) (evsC (E rfl rfl) evs0))) (S1 := CB _ _ _ _) (S2 := [_]) rfl (two36 _ _ _ _ _ _) ?_
    rintro t84 S84 ⟨rfl, A84, c84, rfl⟩
    refine tb 2 rfl ?_
    refine AWH.done (by kernel_rfl) ?_
    refine retN .nil ?_
    refine cbx_end ?_
    rw [farF, if_neg h0f, if_neg h1f, if_neg h2f, if_neg h3f, if_pos h4t]
    skip
    simp only [List.append_assoc]
    rfl
  try replace h4f := of_decide_eq_false h4f
  refine AW.rseq ?_
  refine Y1 (Yv.eql rfl eV eV) ?_
  refine Y1 (Yv.assign rfl eV) ?_
  refine nl ?_
  refine AW.cond rfl (fun h5t => ?_) (fun h5f => ?_)
  ·
   try replace h5t := of_decide_eq_true h5t
   refine AW.regionH (HeldBox b3 (insVals i)) rfl (tells_box (k := 2) rfl) ?_
   refine AWH.tk (i := 0) rfl rfl rfl (B rfl) (heldAll (freeMove rfl (E rfl rfl))) ?_
   refine AWH.tk (i := 3) rfl rfl rfl (B rfl) (heldAll (freeField rfl fo_23_2 (E rfl rfl))) ?_
   refine AWH.tk (i := 4) rfl rfl rfl (B rfl) (heldLoad rfl ag_3 (E rfl rfl) rfl) ?_
   refine AWH.tk (i := 5) rfl rfl rfl (B rfl) (heldAll (freeField rfl fo_23_1 (E rfl rfl))) ?_
   refine AWH.tk (i := 6) rfl rfl rfl (B rfl) (heldLoad rfl ag_3 (E rfl rfl) rfl) ?_
   refine AWH.tk (i := 10) rfl rfl rfl (B rfl) (heldAll (freeField rfl fo_23_2 (E rfl rfl))) ?_
   refine AWH.tk (i := 11) rfl rfl rfl (B rfl) (heldLoad rfl ag_3 (E rfl rfl) rfl) ?_
   refine AWH.tk (i := 12) rfl rfl rfl (B rfl) (heldAll (freeField rfl fo_23_1 (E rfl rfl))) ?_
   refine AWH.tk (i := 13) rfl rfl rfl (B rfl) (heldLoad rfl ag_3 (E rfl rfl) rfl) ?_
   refine AWH.two (i := 1) (j := 8) (by kernel_rfl) rfl rfl ?_ ?_
   ·
    refine AWL.buildSlice1 rfl rfl (B rfl) rfl el_43 rfl (evsC (E rfl rfl) evs0) (Nat.le_of_ble_eq_true rfl) rfl rfl ?_
    refine tb 2 rfl ?_
    refine AWH.two (i := 2) (j := 8) (by kernel_rfl) rfl rfl ?_ ?_
    ·
     refine C1 rfl ce_28 (E rfl rfl) (evsC (E rfl rfl) (evsC (E rfl rfl) evs0)) (S1 := CB _ _ _ _) (S2 := [_]) rfl (put35 _ _ _ _ [_]) ?_
     rintro t89 S89 ⟨rfl, A89, c89, rfl⟩
     refine tb 2 rfl ?_
     refine AWH.two (i := 7) (j := 8) (by kernel_rfl) rfl rfl ?_ ?_
     ·
      refine C1 rfl ce_27 (E rfl rfl) (evsC (E rfl rfl) (evsC (E rfl rfl) (evsC (E rfl rfl) (evsC (E rfl rfl) evs0)))) (S1 := CB _ _ _ _) (S2 := [_]) rfl (rex34 _ _ _ _ _ _ _) ?_
      rintro t94 S94 ⟨rfl, A94, c94, rfl⟩
      refine tb 2 rfl ?_
      refine AWH.one (i := 8) (by kernel_rfl) rfl ?_
      refine AWL.buildSlice1 rfl rfl (B rfl) rfl el_43 rfl (evsC (E rfl rfl) (evsC (E rfl rfl) evs0)) (Nat.le_of_ble_eq_true rfl) rfl rfl ?_
      refine tb 2 rfl ?_
      refine AWH.one (i := 9) (by kernel_rfl) rfl ?_
      refine C1 rfl ce_28 (E rfl rfl) (evsC (E rfl rfl) (evsC (E rfl rfl) evs0)) (S1 := CB _ _ _ _) (S2 := [_]) rfl (put35 _ _ _ _ [_, _]) ?_
      rintro t96 S96 ⟨rfl, A96, c96, rfl⟩
      refine tb 2 rfl ?_
      refine AWH.one (i := 14) (by kernel_rfl) rfl ?_
      refine C1 rfl ce_29 (E rfl rfl) (evsC (E rfl rfl) (evsC (E rfl rfl) (evsC (E rfl rfl) evs0))) (S1 := CB _ _ _ _) (S2 := [_]) rfl (two36 _ _ _ _ _ _) ?_
      rintro t101 S101 ⟨rfl, A101, c101, rfl⟩
      refine tb 2 rfl ?_
      refine AWH.done (by kernel_rfl) ?_
      refine retN .nil ?_
      refine cbx_end ?_
      rw [farF, if_neg h0f, if_neg h1f, if_neg h2f, if_neg h3f, if_neg h4f, if_pos h5t]
      skip
      simp only [List.append_assoc]
      rfl
     ·
      refine AWL.buildSlice1 rfl rfl (B rfl) rfl el_43 rfl (evsC (E rfl rfl) (evsC (E rfl rfl) evs0)) (Nat.le_of_ble_eq_true rfl) rfl rfl ?_
      refine tb 2 rfl ?_
      refine AWH.one (i := 7) (by kernel_rfl) rfl ?_
      refine C1 rfl ce_27 (E rfl rfl) (evsC (E rfl rfl) (evsC (E rfl rfl) (evsC (E rfl rfl) (evsC (E rfl rfl) evs0)))) (S1 := CB _ _ _ _) (S2 := [_]) rfl (rex34 _ _ _ _ _ _ _) ?_
      rintro t94 S94 ⟨rfl, A94, c94, rfl⟩
      refine tb 2 rfl ?_
      refine AWH.one (i := 9) (by kernel_rfl) rfl ?_
      refine C1 rfl ce_28 (E rfl rfl) (evsC (E rfl rfl) (evsC (E rfl rfl) evs0)) (S1 := CB _ _ _ _) (S2 := [_]) rfl (put35 _ _ _ _ [_, _]) ?_
      rintro t96 S96 ⟨rfl, A96, c96, rfl⟩
      refine tb 2 rfl ?_
      refine AWH.one (i := 14) (by kernel_rfl) rfl ?_
      refine C1 rfl ce_29 (E rfl rfl) (evsC (E rfl rfl) (evsC (E rfl rfl) (evsC (E rfl rfl) evs0))) (S1 := CB _ _ _ _) (S2 := [_]) rfl (two36 _ _ _ _ _ _) ?_
      rintro t101 S101 ⟨rfl, A101, c101, rfl⟩
      refine tb 2 rfl ?_
      refine AWH.done (by kernel_rfl) ?_
      refine retN .nil ?_
      refine cbx_end ?_
      rw [farF, if_neg h0f, if_neg h1f, if_neg h2f, if_neg h3f, if_neg h4f, if_pos h5t]
      skip
      simp only [List.append_assoc]
      rfl
    ·
     refine AWL.buildSlice1 rfl rfl (B rfl) rfl el_43 rfl (evsC (E rfl rfl) (evsC (E rfl rfl) evs0)) (Nat.le_of_ble_eq_true rfl) rfl rfl ?_
     refine tb 2 rfl ?_
     refine AWH.one (i := 2) (by kernel_rfl) rfl ?_
     refine C1 rfl ce_28 (E rfl rfl) (evsC (E rfl rfl) (evsC (E rfl rfl) evs0)) (S1 := CB _ _ _ _) (S2 := [_]) rfl (put35 _ _ _ _ [_]) ?_
     rintro t89 S89 ⟨rfl, A89, c89, rfl⟩
     refine tb 2 rfl ?_
     refine AWH.one (i := 7) (by kernel_rfl) rfl ?_
     refine C1 rfl ce_27 (E rfl rfl) (evsC (E rfl rfl) (evsC (E rfl rfl) (evsC (E rfl rfl) (evsC (E rfl rfl) evs0)))) (S1 := CB _ _ _ _) (S2 := [_]) rfl (rex34 _ _ _ _ _ _ _) ?_
     rintro t94 S94 ⟨rfl, A94, c94, rfl⟩
     refine tb 2 rfl ?_
     refine AWH.one (i := 9) (by kernel_rfl) rfl ?_
     refine C1 rfl ce_28 (E rfl rfl) (evsC (E rfl rfl) (evsC (E rfl rfl) evs0)) (S1 := CB _ _ _ _) (S2 := [_]) rfl (put35 _ _ _ _ [_, _]) ?_
     rintro t96 S96 ⟨rfl, A96, c96, rfl⟩
     refine tb 2 rfl ?_
     refine AWH.one (i := 14) (by kernel_rfl) rfl ?_
     refine C1 rfl ce_29 (E rfl rfl) (evsC (E rfl rfl) (evsC (E rfl rfl) (evsC (E rfl rfl) evs0))) (S1 := CB _ _ _ _) (S2 := [_]) rfl (two36 _ _ _ _ _ _) ?_
     rintro t101 S101 ⟨rfl, A101, c101, rfl⟩
     refine tb 2 rfl ?_
     refine AWH.done (by kernel_rfl) ?_
     refine retN .nil ?_
     refine cbx_end ?_
     rw [farF, if_neg h0f, if_neg h1f, if_neg h2f, if_neg h3f, if_neg h4f, if_pos h5t]
     skip
     simp only [List.append_assoc]
     rfl
   ·
    refine AWL.buildSlice1 rfl rfl (B rfl) rfl el_43 rfl (evsC (E rfl rfl) (evsC (E rfl rfl) evs0)) (Nat.le_of_ble_eq_true rfl) rfl rfl ?_
    refine tb 2 rfl ?_
    refine AWH.one (i := 1) (by kernel_rfl) rfl ?_
    refine AWL.buildSlice1 rfl rfl (B rfl) rfl el_43 rfl (evsC (E rfl rfl) evs0) (Nat.le_of_ble_eq_true rfl) rfl rfl ?_
    refine tb 2 rfl ?_
    refine AWH.one (i := 2) (by kernel_rfl) rfl ?_
    refine C1 rfl ce_28 (E rfl rfl) (evsC (E rfl rfl) (evsC (E rfl rfl) evs0)) (S1 := CB _ _ _ _) (S2 := [_]) rfl (put35 _ _ _ _ [_]) ?_
    rintro t89 S89 ⟨rfl, A89, c89, rfl⟩
    refine tb 2 rfl ?_
    refine AWH.one (i := 7) (by kernel_rfl) rfl ?_
    refine C1 rfl ce_27 (E rfl rfl) (evsC (E rfl rfl) (evsC (E rfl rfl) (evsC (E rfl rfl) (evsC (E rfl rfl) evs0)))) (S1 := CB _ _ _ _) (S2 := [_]) rfl (rex34 _ _ _ _ _ _ _) ?_
    rintro t94 S94 ⟨rfl, A94, c94, rfl⟩
    refine tb 2 rfl ?_
    refine AWH.one (i := 9) (by kernel_rfl) rfl ?_
    refine C1 rfl ce_28 (E rfl rfl) (evsC (E rfl rfl) (evsC (E rfl rfl) evs0)) (S1 := CB _ _ _ _) (S2 := [_]) rfl (put35 _ _ _ _ [_, _]) ?_
    rintro t96 S96 ⟨rfl, A96, c96, rfl⟩
    refine tb 2 rfl ?_
    refine AWH.one (i := 14) (by kernel_rfl) rfl ?_
    refine C1 rfl ce_29 (E rfl rfl) (evsC (E rfl rfl) (evsC (E rfl rfl) (evsC (E rfl rfl) evs0))) (S1 := CB _ _ _ _) (S2 := [_]) rfl (two36 _ _ _ _ _ _) ?_
    rintro t101 S101 ⟨rfl, A101, c101, rfl⟩
    refine tb 2 rfl ?_
    refine AWH.done (by kernel_rfl) ?_
    refine retN .nil ?_
    refine cbx_end ?_
    rw [farF, if_neg h0f, if_neg h1f, if_neg h2f, if_neg h3f, if_neg h4f, if_pos h5t]
    skip
    simp only [List.append_assoc]
    rfl
  try replace h5f := of_decide_eq_false h5f
  refine AW.rseq ?_
  refine Y1 (Yv.eql rfl eV eV) ?_
  refine Y1 (Yv.assign rfl eV) ?_
  refine nl ?_
  refine AW.cond rfl (fun h6t => ?_) (fun h6f => ?_)
  ·
   try replace h6t := of_decide_eq_true h6t
   refine AW.regionH (HeldBox b3 (insVals i)) rfl (tells_box (k := 2) rfl) ?_
   refine AWH.tk (i := 0) rfl rfl rfl (B rfl) (heldAll (freeMove rfl (E rfl rfl))) ?_
   refine AWH.tk (i := 3) rfl rfl rfl (B rfl) (heldAll (freeField rfl fo_23_1 (E rfl rfl))) ?_
   refine AWH.tk (i := 4) rfl rfl rfl (B rfl) (heldLoad rfl ag_3 (E rfl rfl) rfl) ?_
   refine AWH.tk (i := 5) rfl rfl rfl (B rfl) (heldAll (freeField rfl fo_23_2 (E rfl rfl))) ?_
   refine AWH.tk (i := 6) rfl rfl rfl (B rfl) (heldLoad rfl ag_3 (E rfl rfl) rfl) ?_
   refine AWH.tk (i := 10) rfl rfl rfl (B rfl) (heldAll (freeField rfl fo_23_1 (E rfl rfl))) ?_
   refine AWH.tk (i := 11) rfl rfl rfl (B rfl) (heldLoad rfl ag_3 (E rfl rfl) rfl) ?_
   refine AWH.tk (i := 12) rfl rfl rfl (B rfl) (heldAll (freeField rfl fo_23_2 (E rfl rfl))) ?_
   refine AWH.tk (i := 13) rfl rfl rfl (B rfl) (heldLoad rfl ag_3 (E rfl rfl) rfl) ?_
   refine AWH.two (i := 1) (j := 8) (by kernel_rfl) rfl rfl ?_ ?_
   ·
    refine AWL.buildSlice1 rfl rfl (B rfl) rfl el_43 rfl (evsC (E rfl rfl) evs0) (Nat.le_of_ble_eq_true rfl) rfl rfl ?_
    refine tb 2 rfl ?_
    refine AWH.two (i := 2) (j := 8) (by kernel_rfl) rfl rfl ?_ ?_
    ·
     refine C1 rfl ce_28 (E rfl rfl) (evsC (E rfl rfl) (evsC (E rfl rfl) evs0)) (S1 := CB _ _ _ _) (S2 := [_]) rfl (put35 _ _ _ _ [_]) ?_
     rintro t106 S106 ⟨rfl, A106, c106, rfl⟩
     refine tb 2 rfl ?_
     refine AWH.two (i := 7) (j := 8) (by kernel_rfl) rfl rfl ?_ ?_
     ·
      refine C1 rfl ce_27 (E rfl rfl) (evsC (E rfl rfl) (evsC (E rfl rfl) (evsC (E rfl rfl) (evsC (E rfl rfl) evs0)))) (S1 := CB _ _ _ _) (S2 := [_]) rfl (rex34 _ _ _ _ _ _ _) ?_
      rintro t111 S111 ⟨rfl, A111, c111, rfl⟩
      refine tb 2 rfl ?_
      refine AWH.one (i := 8) (by kernel_rfl) rfl ?_
      refine AWL.buildSlice1 rfl rfl (B rfl) rfl el_43 rfl (evsC (E rfl rfl) (evsC (E rfl rfl) evs0)) (Nat.le_of_ble_eq_true rfl) rfl rfl ?_
      refine tb 2 rfl ?_
      refine AWH.one (i := 9) (by kernel_rfl) rfl ?_
      refine C1 rfl ce_28 (E rfl rfl) (evsC (E rfl rfl) (evsC (E rfl rfl) evs0)) (S1 := CB _ _ _ _) (S2 := [_]) rfl (put35 _ _ _ _ [_, _]) ?_
      rintro t113 S113 ⟨rfl, A113, c113, rfl⟩
      refine tb 2 rfl ?_
      refine AWH.one (i := 14) (by kernel_rfl) rfl ?_
      refine C1 rfl ce_29 (E rfl rfl) (evsC (E rfl rfl) (evsC (E rfl rfl) (evsC (E rfl rfl) evs0))) (S1 := CB _ _ _ _) (S2 := [_]) rfl (two36 _ _ _ _ _ _) ?_
      rintro t118 S118 ⟨rfl, A118, c118, rfl⟩
      refine tb 2 rfl ?_
      refine AWH.done (by kernel_rfl) ?_
      refine retN .nil ?_
      refine cbx_end ?_
      rw [farF, if_neg h0f, if_neg h1f, if_neg h2f, if_neg h3f, if_neg h4f, if_neg h5f, if_pos h6t]
      skip
      simp only [List.append_assoc]
      rfl
     ·
      refine AWL.buildSlice1 rfl rfl (B rfl) rfl el_43 rfl (evsC (E rfl rfl) (evsC (E rfl rfl) evs0)) (Nat.le_of_ble_eq_true rfl) rfl rfl ?_
      refine tb 2 rfl ?_
      refine AWH.one (i := 7) (by kernel_rfl) rfl ?_
      refine C1 rfl ce_27 (E rfl rfl) (evsC (E rfl rfl) (evsC (E rfl rfl) (evsC (E rfl rfl) (evsC (E rfl rfl) evs0)))) (S1 := CB _ _ _ _) (S2 := [_]) rfl (rex34 _ _ _ _ _ _ _) ?_
      rintro t111 S111 ⟨rfl, A111, c111, rfl⟩
      refine tb 2 rfl ?_
      refine AWH.one (i := 9) (by kernel_rfl) rfl ?_
      refine C1 rfl ce_28 (E rfl rfl) (evsC (E rfl rfl) (evsC (E rfl rfl) evs0)) (S1 := CB _ _ _ _) (S2 := [_]) rfl (put35 _ _ _ _ [_, _]) ?_
      rintro t113 S113 ⟨rfl, A113, c113, rfl⟩
      refine tb 2 rfl ?_
      refine AWH.one (i := 14) (by kernel_rfl) rfl ?_
      refine C1 rfl ce_29 (E rfl rfl) (evsC (E rfl rfl) (evsC (E rfl rfl) (evsC (E rfl rfl) evs0))) (S1 := CB _ _ _ _) (S2 := [_]) rfl (two36 _ _ _ _ _ _) ?_
      rintro t118 S118 ⟨rfl, A118, c118, rfl⟩
      refine tb 2 rfl ?_
      refine AWH.done (by kernel_rfl) ?_
      refine retN .nil ?_
      refine cbx_end ?_
      rw [farF, if_neg h0f, if_neg h1f, if_neg h2f, if_neg h3f, if_neg h4f, if_neg h5f, if_pos h6t]
      skip
      simp only [List.append_assoc]
      rfl
    ·
     refine AWL.buildSlice1 rfl rfl (B rfl) rfl el_43 rfl (evsC (E rfl rfl) (evsC (E rfl rfl) evs0)) (Nat.le_of_ble_eq_true rfl) rfl rfl ?_
     refine tb 2 rfl ?_
     refine AWH.one (i := 2) (by kernel_rfl) rfl ?_
     refine C1 rfl ce_28 (E rfl rfl) (evsC (E rfl rfl) (evsC (E rfl rfl) evs0)) (S1 := CB _ _ _ _) (S2 := [_]) rfl (put35 _ _ _ _ [_]) ?_
     rintro t106 S106 ⟨rfl, A106, c106, rfl⟩
     refine tb 2 rfl ?_
     refine AWH.one (i := 7) (by kernel_rfl) rfl ?_
     refine C1 rfl ce_27 (E rfl rfl) (evsC (E rfl rfl) (evsC (E rfl rfl) (evsC (E rfl rfl) (evsC (E rfl rfl) evs0)))) (S1 := CB _ _ _ _) (S2 := [_]) rfl (rex34 _ _ _ _ _ _ _) ?_
     rintro t111 S111 ⟨rfl, A111, c111, rfl⟩
     refine tb 2 rfl ?_
     refine AWH.one (i := 9) (by kernel_rfl) rfl ?_
     refine C1 rfl ce_28 (E rfl rfl) (evsC (E rfl rfl) (evsC (E rfl rfl) evs0)) (S1 := CB _ _ _ _) (S2 := [_]) rfl (put35 _ _ _ _ [_, _]) ?_
     rintro t113 S113 ⟨rfl, A113, c113, rfl⟩
     refine tb 2 rfl ?_
     refine AWH.one (i := 14) (by kernel_rfl) rfl ?_
     refine C1 rfl ce_29 (E rfl rfl) (evsC (E rfl rfl) (evsC (E rfl rfl) (evsC (E rfl rfl) evs0))) (S1 := CB _ _ _ _) (S2 := [_]) rfl (two36 _ _ _ _ _ _) ?_
     rintro t118 S118 ⟨rfl, A118, c118, rfl⟩
     refine tb 2 rfl ?_
     refine AWH.done (by kernel_rfl) ?_
     refine retN .nil ?_
     refine cbx_end ?_
     rw [farF, if_neg h0f, if_neg h1f, if_neg h2f, if_neg h3f, if_neg h4f, if_neg h5f, if_pos h6t]
     skip
     simp only [List.append_assoc]
     rfl
   ·
    refine AWL.buildSlice1 rfl rfl (B rfl) rfl el_43 rfl (evsC (E rfl rfl) (evsC (E rfl rfl) evs0)) (Nat.le_of_ble_eq_true rfl) rfl rfl ?_
    refine tb 2 rfl ?_
    refine AWH.one (i := 1) (by kernel_rfl) rfl ?_
    refine AWL.buildSlice1 rfl rfl (B rfl) rfl el_43 rfl (evsC (E rfl rfl) evs0) (Nat.le_of_ble_eq_true rfl) rfl rfl ?_
    refine tb 2 rfl ?_
    refine AWH.one (i := 2) (by kernel_rfl) rfl ?_
    refine C1 rfl ce_28 (E rfl rfl) (evsC (E rfl rfl) (evsC (E rfl rfl) evs0)) (S1 := CB _ _ _ _) (S2 := [_]) rfl (put35 _ _ _ _ [_]) ?_
    rintro t106 S106 ⟨rfl, A106, c106, rfl⟩
    refine tb 2 rfl ?_
    refine AWH.one (i := 7) (by kernel_rfl) rfl ?_
    refine C1 rfl ce_27 (E rfl rfl) (evsC (E rfl rfl) (evsC (E rfl rfl) (evsC (E rfl rfl) (evsC (E rfl rfl) evs0)))) (S1 := CB _ _ _ _) (S2 := [_]) rfl (rex34 _ _ _ _ _ _ _) ?_
    rintro t111 S111 ⟨rfl, A111, c111, rfl⟩
    refine tb 2 rfl ?_
    refine AWH.one (i := 9) (by kernel_rfl) rfl ?_
    refine C1 rfl ce_28 (E rfl rfl) (evsC (E rfl rfl) (evsC (E rfl rfl) evs0)) (S1 := CB _ _ _ _) (S2 := [_]) rfl (put35 _ _ _ _ [_, _]) ?_
    rintro t113 S113 ⟨rfl, A113, c113, rfl⟩
    refine tb 2 rfl ?_
    refine AWH.one (i := 14) (by kernel_rfl) rfl ?_
    refine C1 rfl ce_29 (E rfl rfl) (evsC (E rfl rfl) (evsC (E rfl rfl) (evsC (E rfl rfl) evs0))) (S1 := CB _ _ _ _) (S2 := [_]) rfl (two36 _ _ _ _ _ _) ?_
    rintro t118 S118 ⟨rfl, A118, c118, rfl⟩
    refine tb 2 rfl ?_
    refine AWH.done (by kernel_rfl) ?_
    refine retN .nil ?_
    refine cbx_end ?_
    rw [farF, if_neg h0f, if_neg h1f, if_neg h2f, if_neg h3f, if_neg h4f, if_neg h5f, if_pos h6t]
    skip
    simp only [List.append_assoc]
    rfl
  try replace h6f := of_decide_eq_false h6f
  refine AW.rseq ?_
  refine Y1 (Yv.eql rfl eV eV) ?_
  refine Y1 (Yv.assign rfl eV) ?_
  refine nl ?_
  refine AW.cond rfl (fun h7t => ?_) (fun h7f => ?_)
  ·
   try replace h7t := of_decide_eq_true h7t
   refine AW.regionH (HeldBox b3 (insVals i)) rfl (tells_box (k := 2) rfl) ?_
   refine AWH.tk (i := 0) rfl rfl rfl (B rfl) (heldAll (freeMove rfl (E rfl rfl))) ?_
   refine AWH.tk (i := 3) rfl rfl rfl (B rfl) (heldAll (freeField rfl fo_23_1 (E rfl rfl))) ?_
   refine AWH.tk (i := 4) rfl rfl rfl (B rfl) (heldLoad rfl ag_3 (E rfl rfl) rfl) ?_
   refine AWH.tk (i := 5) rfl rfl rfl (B rfl) (heldAll (freeField rfl fo_23_2 (E rfl rfl))) ?_
   refine AWH.tk (i := 6) rfl rfl rfl (B rfl) (heldLoad rfl ag_3 (E rfl rfl) rfl) ?_
   refine AWH.tk (i := 10) rfl rfl rfl (B rfl) (heldAll (freeField rfl fo_23_1 (E rfl rfl))) ?_
   refine AWH.tk (i := 11) rfl rfl rfl (B rfl) (heldLoad rfl ag_3 (E rfl rfl) rfl) ?_
   refine AWH.tk (i := 12) rfl rfl rfl (B rfl) (heldAll (freeField rfl fo_23_2 (E rfl rfl))) ?_
   refine AWH.tk (i := 13) rfl rfl rfl (B rfl) (heldLoad rfl ag_3 (E rfl rfl) rfl) ?_
   refine AWH.two (i := 1) (j := 8) (by kernel_rfl) rfl rfl ?_ ?_
   ·
    refine AWL.buildSlice1 rfl rfl (B rfl) rfl el_43 rfl (evsC (E rfl rfl) evs0) (Nat.le_of_ble_eq_true rfl) rfl rfl ?_
    refine tb 2 rfl ?_
    refine AWH.two (i := 2) (j := 8) (by kernel_rfl) rfl rfl ?_ ?_
    ·
     refine C1 rfl ce_28 (E rfl rfl) (evsC (E rfl rfl) (evsC (E rfl rfl) evs0)) (S1 := CB _ _ _ _) (S2 := [_]) rfl (put35 _ _ _ _ [_]) ?_
     rintro t123 S123 ⟨rfl, A123, c123, rfl⟩
     refine tb 2 rfl ?_
     refine AWH.two (i := 7) (j := 8) (by kernel_rfl) rfl rfl ?_ ?_
     ·
      refine C1 rfl ce_27 (E rfl rfl) (evsC (E rfl rfl) (evsC (E rfl rfl) (evsC (E rfl rfl) (evsC (E rfl rfl) evs0)))) (S1 := CB _ _ _ _) (S2 := [_]) rfl (rex34 _ _ _ _ _ _ _) ?_
      rintro t128 S128 ⟨rfl, A128, c128, rfl⟩
      refine tb 2 rfl ?_
      refine AWH.one (i := 8) (by kernel_rfl) rfl ?_
      refine AWL.buildSlice1 rfl rfl (B rfl) rfl el_43 rfl (evsC (E rfl rfl) (evsC (E rfl rfl) evs0)) (Nat.le_of_ble_eq_true rfl) rfl rfl ?_
      refine tb 2 rfl ?_
      refine AWH.one (i := 9) (by kernel_rfl) rfl ?_
      refine C1 rfl ce_28 (E rfl rfl) (evsC (E rfl rfl) (evsC (E rfl rfl) evs0)) (S1 := CB _ _ _ _) (S2 := [_]) rfl (put35 _ _ _ _ [_, _]) ?_
      rintro t130 S130 ⟨rfl, A130, c130, rfl⟩
      refine tb 2 rfl ?_
      refine AWH.one (i := 14) (by kernel_rfl) rfl ?_
      refine C1 rfl ce_29 (E rfl rfl) (evsC (E rfl rfl) (evsC (E rfl rfl) (evsC (E rfl rfl) evs0))) (S1 := CB _ _ _ _) (S2 := [_]) rfl (two36 _ _ _ _ _ _) ?_
      rintro t135 S135 ⟨rfl, A135, c135, rfl⟩
      refine tb 2 rfl ?_
      refine AWH.done (by kernel_rfl) ?_
      refine retN .nil ?_
      refine cbx_end ?_
      rw [farF, if_neg h0f, if_neg h1f, if_neg h2f, if_neg h3f, if_neg h4f, if_neg h5f, if_neg h6f, if_pos h7t]
      skip
      simp only [List.append_assoc]
      rfl
     ·
      refine AWL.buildSlice1 rfl rfl (B rfl) rfl el_43 rfl (evsC (E rfl rfl) (evsC (E rfl rfl) evs0)) (Nat.le_of_ble_eq_true rfl) rfl rfl ?_
      refine tb 2 rfl ?_
      refine AWH.one (i := 7) (by kernel_rfl) rfl ?_
      refine C1 rfl ce_27 (E rfl rfl) (evsC (E rfl rfl) (evsC (E rfl rfl) (evsC (E rfl rfl) (evsC (E rfl rfl) evs0)))) (S1 := CB _ _ _ _) (S2 := [_]) rfl (rex34 _ _ _ _ _ _ _) ?_
      rintro t128 S128 ⟨rfl, A128, c128, rfl⟩
      refine tb 2 rfl ?_
      refine AWH.one (i := 9) (by kernel_rfl) rfl ?_
      refine C1 rfl ce_28 (E rfl rfl) (evsC (E rfl rfl) (evsC (E rfl rfl) evs0)) (S1 := CB _ _ _ _) (S2 := [_]) rfl (put35 _ _ _ _ [_, _]) ?_
      rintro t130 S130 ⟨rfl, A130, c130, rfl⟩
      refine tb 2 rfl ?_
      refine AWH.one (i := 14) (by kernel_rfl) rfl ?_
      refine C1 rfl ce_29 (E rfl rfl) (evsC (E rfl rfl) (evsC (E rfl rfl) (evsC (E rfl rfl) evs0))) (S1 := CB _ _ _ _) (S2 := [_]) rfl (two36 _ _ _ _ _ _) ?_
      rintro t135 S135 ⟨rfl, A135, c135, rfl⟩
      refine tb 2 rfl ?_
      refine AWH.done (by kernel_rfl) ?_
      refine retN .nil ?_
      refine cbx_end ?_
      rw [farF, if_neg h0f, if_neg h1f, if_neg h2f, if_neg h3f, if_neg h4f, if_neg h5f, if_neg h6f, if_pos h7t]
      skip
      simp only [List.append_assoc]
      rfl
    ·
     refine AWL.buildSlice1 rfl rfl (B rfl) rfl el_43 rfl (evsC (E rfl rfl) (evsC (E rfl rfl) evs0)) (Nat.le_of_ble_eq_true rfl) rfl rfl ?_
     refine tb 2 rfl ?_
     refine AWH.one (i := 2) (by kernel_rfl) rfl ?_
     refine C1 rfl ce_28 (E rfl rfl) (evsC (E rfl rfl) (evsC (E rfl rfl) evs0)) (S1 := CB _ _ _ _) (S2 := [_]) rfl (put35 _ _ _ _ [_]) ?_
     rintro t123 S123 ⟨rfl, A123, c123, rfl⟩
     refine tb 2 rfl ?_
     refine AWH.one (i := 7) (by kernel_rfl) rfl ?_
     refine C1 rfl ce_27 (E rfl rfl) (evsC (E rfl rfl) (evsC (E rfl rfl) (evsC (E rfl rfl) (evsC (E rfl rfl) evs0)))) (S1 := CB _ _ _ _) (S2 := [_]) rfl (rex34 _ _ _ _ _ _ _) ?_
     rintro t128 S128 ⟨rfl, A128, c128, rfl⟩
     refine tb 2 rfl ?_
     refine AWH.one (i := 9) (by kernel_rfl) rfl ?_
     refine C1 rfl ce_28 (E rfl rfl) (evsC (E rfl rfl) (evsC (E rfl rfl) evs0)) (S1 := CB _ _ _ _) (S2 := [_]) rfl (put35 _ _ _ _ [_, _]) ?_
     rintro t130 S130 ⟨rfl, A130, c130, rfl⟩
     refine tb 2 rfl ?_
     refine AWH.one (i := 14) (by kernel_rfl) rfl ?_
     refine C1 rfl ce_29 (E rfl rfl) (evsC (E rfl rfl) (evsC (E rfl rfl) (evsC (E rfl rfl) evs0))) (S1 := CB _ _ _ _) (S2 := [_]) rfl (two36 _ _ _ _ _ _) ?_
     rintro t135 S135 ⟨rfl, A135, c135, rfl⟩
     refine tb 2 rfl ?_
     refine AWH.done (by kernel_rfl) ?_
     refine retN .nil ?_
     refine cbx_end ?_
     rw [farF, if_neg h0f, if_neg h1f, if_neg h2f, if_neg h3f, if_neg h4f, if_neg h5f, if_neg h6f, if_pos h7t]
     skip
     simp only [List.append_assoc]
     rfl
   ·
    refine AWL.buildSlice1 rfl rfl (B rfl) rfl el_43 rfl (evsC (E rfl rfl) (evsC (E rfl rfl) evs0)) (Nat.le_of_ble_eq_true rfl) rfl rfl ?_
    refine tb 2 rfl ?_
    refine AWH.one (i := 1) (by kernel_rfl) rfl ?_
    refine AWL.buildSlice1 rfl rfl (B rfl) rfl el_43 rfl (evsC (E rfl rfl) evs0) (Nat.le_of_ble_eq_true rfl) rfl rfl ?_
    refine tb 2 rfl ?_
    refine AWH.one (i := 2) (by kernel_rfl) rfl ?_
    refine C1 rfl ce_28 (E rfl rfl) (evsC (E rfl rfl) (evsC (E rfl rfl) evs0)) (S1 := CB _ _ _ _) (S2 := [_]) rfl (put35 _ _ _ _ [_]) ?_
    rintro t123 S123 ⟨rfl, A123, c123, rfl⟩
    refine tb 2 rfl ?_
    refine AWH.one (i := 7) (by kernel_rfl) rfl ?_
    refine C1 rfl ce_27 (E rfl rfl) (evsC (E rfl rfl) (evsC (E rfl rfl) (evsC (E rfl rfl) (evsC (E rfl rfl) evs0)))) (S1 := CB _ _ _ _) (S2 := [_]) rfl (rex34 _ _ _ _ _ _ _) ?_
    rintro t128 S128 ⟨rfl, A128, c128, rfl⟩
    refine tb 2 rfl ?_
    refine AWH.one (i := 9) (by kernel_rfl) rfl ?_
    refine C1 rfl ce_28 (E rfl rfl) (evsC (E rfl rfl) (evsC (E rfl rfl) evs0)) (S1 := CB _ _ _ _) (S2 := [_]) rfl (put35 _ _ _ _ [_, _]) ?_
    rintro t130 S130 ⟨rfl, A130, c130, rfl⟩
    refine tb 2 rfl ?_
    refine AWH.one (i := 14) (by kernel_rfl) rfl ?_
    refine C1 rfl ce_29 (E rfl rfl) (evsC (E rfl rfl) (evsC (E rfl rfl) (evsC (E rfl rfl) evs0))) (S1 := CB _ _ _ _) (S2 := [_]) rfl (two36 _ _ _ _ _ _) ?_
    rintro t135 S135 ⟨rfl, A135, c135, rfl⟩
    refine tb 2 rfl ?_
    refine AWH.done (by kernel_rfl) ?_
    refine retN .nil ?_
    refine cbx_end ?_
    rw [farF, if_neg h0f, if_neg h1f, if_neg h2f, if_neg h3f, if_neg h4f, if_neg h5f, if_neg h6f, if_pos h7t]
    skip
    simp only [List.append_assoc]
    rfl
  try replace h7f := of_decide_eq_false h7f
  refine AW.rseq ?_
  refine Y1 (Yv.eql rfl eV eV) ?_
  refine Y1 (Yv.assign rfl eV) ?_
  refine nl ?_
  refine AW.cond rfl (fun h8t => ?_) (fun h8f => ?_)
  ·
   try replace h8t := of_decide_eq_true h8t
   refine AW.regionH (HeldBox b3 (insVals i)) rfl (tells_box (k := 2) rfl) ?_
   refine AWH.tk (i := 0) rfl rfl rfl (B rfl) (heldAll (freeMove rfl (E rfl rfl))) ?_
   refine AWH.tk (i := 3) rfl rfl rfl (B rfl) (heldAll (freeField rfl fo_23_1 (E rfl rfl))) ?_
   refine AWH.tk (i := 4) rfl rfl rfl (B rfl) (heldLoad rfl ag_3 (E rfl rfl) rfl) ?_
   refine AWH.tk (i := 5) rfl rfl rfl (B rfl) (heldAll (freeField rfl fo_23_2 (E rfl rfl))) ?_
   refine AWH.tk (i := 6) rfl rfl rfl (B rfl) (heldLoad rfl ag_3 (E rfl rfl) rfl) ?_
   refine AWH.tk (i := 10) rfl rfl rfl (B rfl) (heldAll (freeField rfl fo_23_1 (E rfl rfl))) ?_
   refine AWH.tk (i := 11) rfl rfl rfl (B rfl) (heldLoad rfl ag_3 (E rfl rfl) rfl) ?_
   refine AWH.tk (i := 12) rfl rfl rfl (B rfl) (heldAll (freeField rfl fo_23_2 (E rfl rfl))) ?_
   refine AWH.tk (i := 13) rfl rfl rfl (B rfl) (heldLoad rfl ag_3 (E rfl rfl) rfl) ?_
   refine AWH.two (i := 1) (j := 8) (by kernel_rfl) rfl rfl ?_ ?_
   ·
    refine AWL.buildSlice1 rfl rfl (B rfl) rfl el_43 rfl (evsC (E rfl rfl) evs0) (Nat.le_of_ble_eq_true rfl) rfl rfl ?_
    refine tb 2 rfl ?_
    refine AWH.two (i := 2) (j := 8) (by kernel_rfl) rfl rfl ?_ ?_
    ·
     refine C1 rfl ce_28 (E rfl rfl) (evsC (E rfl rfl) (evsC (E rfl rfl) evs0)) (S1 := CB _ _ _ _) (S2 := [_]) rfl (put35 _ _ _ _ [_]) ?_
     rintro t140 S140 ⟨rfl, A140, c140, rfl⟩
     refine tb 2 rfl ?_
     refine AWH.two (i := 7) (j := 8) (by kernel_rfl) rfl rfl ?_ ?_
     ·
      refine C1 rfl ce_27 (E rfl rfl) (evsC (E rfl rfl) (evsC (E rfl rfl) (evsC (E rfl rfl) (evsC (E rfl rfl) evs0)))) (S1 := CB _ _ _ _) (S2 := [_]) rfl (rex34 _ _ _ _ _ _ _) ?_
      rintro t145 S145 ⟨rfl, A145, c145, rfl⟩
      refine tb 2 rfl ?_
      refine AWH.one (i := 8) (by kernel_rfl) rfl ?_
      refine AWL.buildSlice1 rfl rfl (B rfl) rfl el_43 rfl (evsC (E rfl rfl) (evsC (E rfl rfl) evs0)) (Nat.le_of_ble_eq_true rfl) rfl rfl ?_
      refine tb 2 rfl ?_
      refine AWH.one (i := 9) (by kernel_rfl) rfl ?_
      refine C1 rfl ce_28 (E rfl rfl) (evsC (E rfl rfl) (evsC (E rfl rfl) evs0)) (S1 := CB _ _ _ _) (S2 := [_]) rfl (put35 _ _ _ _ [_, _]) ?_
      rintro t147 S147 ⟨rfl, A147, c147, rfl⟩
      refine tb 2 rfl ?_
      refine AWH.one (i := 14) (by kernel_rfl) rfl ?_
      refine C1 rfl ce_29 (E rfl rfl) (evsC (E rfl rfl) (evsC (E rfl rfl) (evsC (E rfl rfl) evs0))) (S1 := CB _ _ _ _) (S2 := [_]) rfl (two36 _ _ _ _ _ _) ?_
      rintro t152 S152 ⟨rfl, A152, c152, rfl⟩
      refine tb 2 rfl ?_
      refine AWH.done (by kernel_rfl) ?_
      refine retN .nil ?_
      refine cbx_end ?_
      rw [farF, if_neg h0f, if_neg h1f, if_neg h2f, if_neg h3f, if_neg h4f, if_neg h5f, if_neg h6f, if_neg h7f, if_pos h8t]
      skip
      simp only [List.append_assoc]
      rfl
     ·
      refine AWL.buildSlice1 rfl rfl (B rfl) rfl el_43 rfl (evsC (E rfl rfl) (evsC (E rfl rfl) evs0)) (Nat.le_of_ble_eq_true rfl) rfl rfl ?_
      refine tb 2 rfl ?_
      refine AWH.one (i := 7) (by kernel_rfl) rfl ?_
      refine C1 rfl ce_27 (E rfl rfl) (evsC (E rfl rfl) (evsC (E rfl rfl) (evsC (E rfl rfl) (evsC (E rfl rfl) evs0)))) (S1 := CB _ _ _ _) (S2 := [_]) rfl (rex34 _ _ _ _ _ _ _) ?_
      rintro t145 S145 ⟨rfl, A145, c145, rfl⟩
      refine tb 2 rfl ?_
      refine AWH.one (i := 9) (by kernel_rfl) rfl ?_
      refine C1 rfl ce_28 (E rfl rfl) (evsC (E rfl rfl) (evsC (E rfl rfl) evs0)) (S1 := CB _ _ _ _) (S2 := [_]) rfl (put35 _ _ _ _ [_, _]) ?_
      rintro t147 S147 ⟨rfl, A147, c147, rfl⟩
      refine tb 2 rfl ?_
      refine AWH.one (i := 14) (by kernel_rfl) rfl ?_
      refine C1 rfl ce_29 (E rfl rfl) (evsC (E rfl rfl) (evsC (E rfl rfl) (evsC (E rfl rfl) evs0))) (S1 := CB _ _ _ _) (S2 := [_]) rfl (two36 _ _ _ _ _ _) ?_
      rintro t152 S152 ⟨rfl, A152, c152, rfl⟩
      refine tb 2 rfl ?_
      refine AWH.done (by kernel_rfl) ?_
      refine retN .nil ?_
      refine cbx_end ?_
      rw [farF, if_neg h0f, if_neg h1f, if_neg h2f, if_neg h3f, if_neg h4f, if_neg h5f, if_neg h6f, if_neg h7f, if_pos h8t]
      skip
      simp only [List.append_assoc]
      rfl
    ·
     refine AWL.buildSlice1 rfl rfl (B rfl) rfl el_43 rfl (evsC (E rfl rfl) (evsC (E rfl rfl) evs0)) (Nat.le_of_ble_eq_true rfl) rfl rfl ?_
     refine tb 2 rfl ?_
     refine AWH.one (i := 2) (by kernel_rfl) rfl ?_
     refine C1 rfl ce_28 (E rfl rfl) (evsC (E rfl rfl) (evsC (E rfl rfl) evs0)) (S1 := CB _ _ _ _) (S2 := [_]) rfl (put35 _ _ _ _ [_]) ?_
     rintro t140 S140 ⟨rfl, A140, c140, rfl⟩
     refine tb 2 rfl ?_
     refine AWH.one (i := 7) (by kernel_rfl) rfl ?_
     refine C1 rfl ce_27 (E rfl rfl) (evsC (E rfl rfl) (evsC (E rfl rfl) (evsC (E rfl rfl) (evsC (E rfl rfl) evs0)))) (S1 := CB _ _ _ _) (S2 := [_]) rfl (rex34 _ _ _ _ _ _ _) ?_
     rintro t145 S145 ⟨rfl, A145, c145, rfl⟩
     refine tb 2 rfl ?_
     refine AWH.one (i := 9) (by kernel_rfl) rfl ?_
     refine C1 rfl ce_28 (E rfl rfl) (evsC (E rfl rfl) (evsC (E rfl rfl) evs0)) (S1 := CB _ _ _ _) (S2 := [_]) rfl (put35 _ _ _ _ [_, _]) ?_
     rintro t147 S147 ⟨rfl, A147, c147, rfl⟩
     refine tb 2 rfl ?_
     refine AWH.one (i := 14) (by kernel_rfl) rfl ?_
     refine C1 rfl ce_29 (E rfl rfl) (evsC (E rfl rfl) (evsC (E rfl rfl) (evsC (E rfl rfl) evs0))) (S1 := CB _ _ _ _) (S2 := [_]) rfl (two36 _ _ _ _ _ _) ?_
     rintro t152 S152 ⟨rfl, A152, c152, rfl⟩
     refine tb 2 rfl ?_
     refine AWH.done (by kernel_rfl) ?_
     refine retN .nil ?_
     refine cbx_end ?_
     rw [farF, if_neg h0f, if_neg h1f, if_neg h2f, if_neg h3f, if_neg h4f, if_neg h5f, if_neg h6f, if_neg h7f, if_pos h8t]
     skip
     simp only [List.append_assoc]
     rfl
   ·
    refine AWL.buildSlice1 rfl rfl (B rfl) rfl el_43 rfl (evsC (E rfl rfl) (evsC (E rfl rfl) evs0)) (Nat.le_of_ble_eq_true rfl) rfl rfl ?_
    refine tb 2 rfl ?_
    refine AWH.one (i := 1) (by kernel_rfl) rfl ?_
    refine AWL.buildSlice1 rfl rfl (B rfl) rfl el_43 rfl (evsC (E rfl rfl) evs0) (Nat.le_of_ble_eq_true rfl) rfl rfl ?_
    refine tb 2 rfl ?_
    refine AWH.one (i := 2) (by kernel_rfl) rfl ?_
    refine C1 rfl ce_28 (E rfl rfl) (evsC (E rfl rfl) (evsC (E rfl rfl) evs0)) (S1 := CB _ _ _ _) (S2 := [_]) rfl (put35 _ _ _ _ [_]) ?_
    rintro t140 S140 ⟨rfl, A140, c140, rfl⟩
    refine tb 2 rfl ?_
    refine AWH.one (i := 7) (by kernel_rfl) rfl ?_
    refine C1 rfl ce_27 (E rfl rfl) (evsC (E rfl rfl) (evsC (E rfl rfl) (evsC (E rfl rfl) (evsC (E rfl rfl) evs0)))) (S1 := CB _ _ _ _) (S2 := [_]) rfl (rex34 _ _ _ _ _ _ _) ?_
    rintro t145 S145 ⟨rfl, A145, c145, rfl⟩
    refine tb 2 rfl ?_
    refine AWH.one (i := 9) (by kernel_rfl) rfl ?_
    refine C1 rfl ce_28 (E rfl rfl) (evsC (E rfl rfl) (evsC (E rfl rfl) evs0)) (S1 := CB _ _ _ _) (S2 := [_]) rfl (put35 _ _ _ _ [_, _]) ?_
    rintro t147 S147 ⟨rfl, A147, c147, rfl⟩
    refine tb 2 rfl ?_
    refine AWH.one (i := 14) (by kernel_rfl) rfl ?_
    refine C1 rfl ce_29 (E rfl rfl) (evsC (E rfl rfl) (evsC (E rfl rfl) (evsC (E rfl rfl) evs0))) (S1 := CB _ _ _ _) (S2 := [_]) rfl (two36 _ _ _ _ _ _) ?_
    rintro t152 S152 ⟨rfl, A152, c152, rfl⟩
    refine tb 2 rfl ?_
    refine AWH.done (by kernel_rfl) ?_
    refine retN .nil ?_
    refine cbx_end ?_
    rw [farF, if_neg h0f, if_neg h1f, if_neg h2f, if_neg h3f, if_neg h4f, if_neg h5f, if_neg h6f, if_neg h7f, if_pos h8t]
    skip
    simp only [List.append_assoc]
    rfl
  try replace h8f := of_decide_eq_false h8f
  refine AW.rseq ?_
  refine Y1 (Yv.eql rfl eV eV) ?_
  refine Y1 (Yv.assign rfl eV) ?_
  refine nl ?_
  refine AW.cond rfl (fun h9t => ?_) (fun h9f => ?_)
  ·
   try replace h9t := of_decide_eq_true h9t
   refine AW.regionH (HeldBox b3 (insVals i)) rfl (tells_box (k := 2) rfl) ?_
   refine AWH.tk (i := 0) rfl rfl rfl (B rfl) (heldAll (freeMove rfl (E rfl rfl))) ?_
   refine AWH.tk (i := 3) rfl rfl rfl (B rfl) (heldAll (freeField rfl fo_23_1 (E rfl rfl))) ?_
   refine AWH.tk (i := 4) rfl rfl rfl (B rfl) (heldLoad rfl ag_3 (E rfl rfl) rfl) ?_
   refine AWH.tk (i := 5) rfl rfl rfl (B rfl) (heldAll (freeField rfl fo_23_2 (E rfl rfl))) ?_
   refine AWH.tk (i := 6) rfl rfl rfl (B rfl) (heldLoad rfl ag_3 (E rfl rfl) rfl) ?_
   refine AWH.tk (i := 10) rfl rfl rfl (B rfl) (heldAll (freeField rfl fo_23_1 (E rfl rfl))) ?_
   refine AWH.tk (i := 11) rfl rfl rfl (B rfl) (heldLoad rfl ag_3 (E rfl rfl) rfl) ?_
   refine AWH.tk (i := 12) rfl rfl rfl (B rfl) (heldAll (freeField rfl fo_23_2 (E rfl rfl))) ?_
   refine AWH.tk (i := 13) rfl rfl rfl (B rfl) (heldLoad rfl ag_3 (E rfl rfl) rfl) ?_
   refine AWH.two (i := 1) (j := 8) (by kernel_rfl) rfl rfl ?_ ?_
   ·
    refine AWL.buildSlice1 rfl rfl (B rfl) rfl el_43 rfl (evsC (E rfl rfl) evs0) (Nat.le_of_ble_eq_true rfl) rfl rfl ?_
    refine tb 2 rfl ?_
    refine AWH.two (i := 2) (j := 8) (by kernel_rfl) rfl rfl ?_ ?_
    ·
     refine C1 rfl ce_28 (E rfl rfl) (evsC (E rfl rfl) (evsC (E rfl rfl) evs0)) (S1 := CB _ _ _ _) (S2 := [_]) rfl (put35 _ _ _ _ [_]) ?_
     rintro t157 S157 ⟨rfl, A157, c157, rfl⟩
     refine tb 2 rfl ?_
     refine AWH.two (i := 7) (j := 8) (by kernel_rfl) rfl rfl ?_ ?_
     ·
      refine C1 rfl ce_27 (E rfl rfl) (evsC (E rfl rfl) (evsC (E rfl rfl) (evsC (E rfl rfl) (evsC (E rfl rfl) evs0)))) (S1 := CB _ _ _ _) (S2 := [_]) rfl (rex34 _ _ _ _ _ _ _) ?_
      rintro t162 S162 ⟨rfl, A162, c162, rfl⟩
      refine tb 2 rfl ?_
      refine AWH.one (i := 8) (by kernel_rfl) rfl ?_
      refine AWL.buildSlice1 rfl rfl (B rfl) rfl el_43 rfl (evsC (E rfl rfl) (evsC (E rfl rfl) evs0)) (Nat.le_of_ble_eq_true rfl) rfl rfl ?_
      refine tb 2 rfl ?_
      refine AWH.one (i := 9) (by kernel_rfl) rfl ?_
      refine C1 rfl ce_28 (E rfl rfl) (evsC (E rfl rfl) (evsC (E rfl rfl) evs0)) (S1 := CB _ _ _ _) (S2 := [_]) rfl (put35 _ _ _ _ [_, _]) ?_
      rintro t164 S164 ⟨rfl, A164, c164, rfl⟩
      refine tb 2 rfl ?_
      refine AWH.one (i := 14) (by kernel_rfl) rfl ?_
      refine C1 rfl ce_29 (E rfl rfl) (evsC (E rfl rfl) (evsC (E rfl rfl) (evsC (E rfl rfl) evs0))) (S1 := CB _ _ _ _) (S2 := [_]) rfl (two36 _ _ _ _ _ _) ?_
      rintro t169 S169 ⟨rfl, A169, c169, rfl⟩
      refine tb 2 rfl ?_
      refine AWH.done (by kernel_rfl) ?_
      refine retN .nil ?_
      refine cbx_end ?_
      rw [farF, if_neg h0f, if_neg h1f, if_neg h2f, if_neg h3f, if_neg h4f, if_neg h5f, if_neg h6f, if_neg h7f, if_neg h8f, if_pos h9t]
      skip
      simp only [List.append_assoc]
      rfl
     ·
      refine AWL.buildSlice1 rfl rfl (B rfl) rfl el_43 rfl (evsC (E rfl rfl) (evsC (E rfl rfl) evs0)) (Nat.le_of_ble_eq_true rfl) rfl rfl ?_
      refine tb 2 rfl ?_
      refine AWH.one (i := 7) (by kernel_rfl) rfl ?_
      refine C1 rfl ce_27 (E rfl rfl) (evsC (E rfl rfl) (evsC (E rfl rfl) (evsC (E rfl rfl) (evsC (E rfl rfl) evs0)))) (S1 := CB _ _ _ _) (S2 := [_]) rfl (rex34 _ _ _ _ _ _ _) ?_
      rintro t162 S162 ⟨rfl, A162, c162, rfl⟩
      refine tb 2 rfl ?_
      refine AWH.one (i := 9) (by kernel_rfl) rfl ?_
      refine C1 rfl ce_28 (E rfl rfl) (evsC (E rfl rfl) (evsC (E rfl rfl) evs0)) (S1 := CB _ _ _ _) (S2 := [_]) rfl (put35 _ _ _ _ [_, _]) ?_
      rintro t164 S164 ⟨rfl, A164, c164, rfl⟩
      refine tb 2 rfl ?_
      refine AWH.one (i := 14) (by kernel_rfl) rfl ?_
      refine C1 rfl ce_29 (E rfl rfl) (evsC (E rfl rfl) (evsC (E rfl rfl) (evsC (E rfl rfl) evs0))) (S1 := CB _ _ _ _) (S2 := [_]) rfl (two36 _ _ _ _ _ _) ?_
      rintro t169 S169 ⟨rfl, A169, c169, rfl⟩
      refine tb 2 rfl ?_
      refine AWH.done (by kernel_rfl) ?_
      refine retN .nil ?_
      refine cbx_end ?_
      rw [farF, if_neg h0f, if_neg h1f, if_neg h2f, if_neg h3f, if_neg h4f, if_neg h5f, if_neg h6f, if_neg h7f, if_neg h8f, if_pos h9t]
      skip
      simp only [List.append_assoc]
      rfl
    ·
     refine AWL.buildSlice1 rfl rfl (B rfl) rfl el_43 rfl (evsC (E rfl rfl) (evsC (E rfl rfl) evs0)) (Nat.le_of_ble_eq_true rfl) rfl rfl ?_
     refine tb 2 rfl ?_
     refine AWH.one (i := 2) (by kernel_rfl) rfl ?_
     refine C1 rfl ce_28 (E rfl rfl) (evsC (E rfl rfl) (evsC (E rfl rfl) evs0)) (S1 := CB _ _ _ _) (S2 := [_]) rfl (put35 _ _ _ _ [_]) ?_
     rintro t157 S157 ⟨rfl, A157, c157, rfl⟩
     refine tb 2 rfl ?_
     refine AWH.one (i := 7) (by kernel_rfl) rfl ?_
     refine C1 rfl ce_27 (E rfl rfl) (evsC (E rfl rfl) (evsC (E rfl rfl) (evsC (E rfl rfl) (evsC (E rfl rfl) evs0)))) (S1 := CB _ _ _ _) (S2 := [_]) rfl (rex34 _ _ _ _ _ _ _) ?_
     rintro t162 S162 ⟨rfl, A162, c162, rfl⟩
     refine tb 2 rfl ?_
     refine AWH.one (i := 9) (by kernel_rfl) rfl ?_
     refine C1 rfl ce_28 (E rfl rfl) (evsC (E rfl rfl) (evsC (E rfl rfl) evs0)) (S1 := CB _ _ _ _) (S2 := [_]) rfl (put35 _ _ _ _ [_, _]) ?_
     rintro t164 S164 ⟨rfl, A164, c164, rfl⟩
     refine tb 2 rfl ?_
     refine AWH.one (i := 14) (by kernel_rfl) rfl ?_
     refine C1 rfl ce_29 (E rfl rfl) (evsC (E rfl rfl) (evsC (E rfl rfl) (evsC (E rfl rfl) evs0))) (S1 := CB _ _ _ _) (S2 := [_]) rfl (two36 _ _ _ _ _ _) ?_
     rintro t169 S169 ⟨rfl, A169, c169, rfl⟩
     refine tb 2 rfl ?_
     refine AWH.done (by kernel_rfl) ?_
     refine retN .nil ?_
     refine cbx_end ?_
     rw [farF, if_neg h0f, if_neg h1f, if_neg h2f, if_neg h3f, if_neg h4f, if_neg h5f, if_neg h6f, if_neg h7f, if_neg h8f, if_pos h9t]
     skip
     simp only [List.append_assoc]
     rfl
   ·
    refine AWL.buildSlice1 rfl rfl (B rfl) rfl el_43 rfl (evsC (E rfl rfl) (evsC (E rfl rfl) evs0)) (Nat.le_of_ble_eq_true rfl) rfl rfl ?_
    refine tb 2 rfl ?_
    refine AWH.one (i := 1) (by kernel_rfl) rfl ?_
    refine AWL.buildSlice1 rfl rfl (B rfl) rfl el_43 rfl (evsC (E rfl rfl) evs0) (Nat.le_of_ble_eq_true rfl) rfl rfl ?_
    refine tb 2 rfl ?_
    refine AWH.one (i := 2) (by kernel_rfl) rfl ?_
    refine C1 rfl ce_28 (E rfl rfl) (evsC (E rfl rfl) (evsC (E rfl rfl) evs0)) (S1 := CB _ _ _ _) (S2 := [_]) rfl (put35 _ _ _ _ [_]) ?_
    rintro t157 S157 ⟨rfl, A157, c157, rfl⟩
    refine tb 2 rfl ?_
    refine AWH.one (i := 7) (by kernel_rfl) rfl ?_
    refine C1 rfl ce_27 (E rfl rfl) (evsC (E rfl rfl) (evsC (E rfl rfl) (evsC (E rfl rfl) (evsC (E rfl rfl) evs0)))) (S1 := CB _ _ _ _) (S2 := [_]) rfl (rex34 _ _ _ _ _ _ _) ?_
    rintro t162 S162 ⟨rfl, A162, c162, rfl⟩
    refine tb 2 rfl ?_
    refine AWH.one (i := 9) (by kernel_rfl) rfl ?_
    refine C1 rfl ce_28 (E rfl rfl) (evsC (E rfl rfl) (evsC (E rfl rfl) evs0)) (S1 := CB _ _ _ _) (S2 := [_]) rfl (put35 _ _ _ _ [_, _]) ?_
    rintro t164 S164 ⟨rfl, A164, c164, rfl⟩
    refine tb 2 rfl ?_
    refine AWH.one (i := 14) (by kernel_rfl) rfl ?_
    refine C1 rfl ce_29 (E rfl rfl) (evsC (E rfl rfl) (evsC (E rfl rfl) (evsC (E rfl rfl) evs0))) (S1 := CB _ _ _ _) (S2 := [_]) rfl (two36 _ _ _ _ _ _) ?_
    rintro t169 S169 ⟨rfl, A169, c169, rfl⟩
    refine tb 2 rfl ?_
    refine AWH.done (by kernel_rfl) ?_
    refine retN .nil ?_
    refine cbx_end ?_
    rw [farF, if_neg h0f, if_neg h1f, if_neg h2f, if_neg h3f, if_neg h4f, if_neg h5f, if_neg h6f, if_neg h7f, if_neg h8f, if_pos h9t]
    skip
    simp only [List.append_assoc]
    rfl
  try replace h9f := of_decide_eq_false h9f
  refine AW.rseq ?_
  refine Y1 (Yv.eql rfl eV eV) ?_
  refine Y1 (Yv.assign rfl eV) ?_
  refine nl ?_
  refine AW.cond rfl (fun h10t => ?_) (fun h10f => ?_)
  ·
   try replace h10t := of_decide_eq_true h10t
   refine AW.regionH (HeldBox b3 (insVals i)) rfl (tells_box (k := 2) rfl) ?_
   refine AWH.tk (i := 0) rfl rfl rfl (B rfl) (heldAll (freeMove rfl (E rfl rfl))) ?_
   refine AWH.tk (i := 3) rfl rfl rfl (B rfl) (heldAll (freeField rfl fo_23_1 (E rfl rfl))) ?_
   refine AWH.tk (i := 4) rfl rfl rfl (B rfl) (heldLoad rfl ag_3 (E rfl rfl) rfl) ?_
   refine AWH.tk (i := 5) rfl rfl rfl (B rfl) (heldAll (freeField rfl fo_23_2 (E rfl rfl))) ?_
   refine AWH.tk (i := 6) rfl rfl rfl (B rfl) (heldLoad rfl ag_3 (E rfl rfl) rfl) ?_
   refine AWH.tk (i := 10) rfl rfl rfl (B rfl) (heldAll (freeField rfl fo_23_1 (E rfl rfl))) ?_
   refine AWH.tk (i := 11) rfl rfl rfl (B rfl) (heldLoad rfl ag_3 (E rfl rfl) rfl) ?_
   refine AWH.tk (i := 12) rfl rfl rfl (B rfl) (heldAll (freeField rfl fo_23_2 (E rfl rfl))) ?_
   refine AWH.tk (i := 13) rfl rfl rfl (B rfl) (heldLoad rfl ag_3 (E rfl rfl) rfl) ?_
   refine AWH.two (i := 1) (j := 8) (by kernel_rfl) rfl rfl ?_ ?_
   ·
    refine AWL.buildSlice1 rfl rfl (B rfl) rfl el_43 rfl (evsC (E rfl rfl) evs0) (Nat.le_of_ble_eq_true rfl) rfl rfl ?_
    refine tb 2 rfl ?_
    refine AWH.two (i := 2) (j := 8) (by kernel_rfl) rfl rfl ?_ ?_
    ·
     refine C1 rfl ce_28 (E rfl rfl) (evsC (E rfl rfl) (evsC (E rfl rfl) evs0)) (S1 := CB _ _ _ _) (S2 := [_]) rfl (put35 _ _ _ _ [_]) ?_
     rintro t174 S174 ⟨rfl, A174, c174, rfl⟩
     refine tb 2 rfl ?_
     refine AWH.two (i := 7) (j := 8) (by kernel_rfl) rfl rfl ?_ ?_
     ·
      refine C1 rfl ce_27 (E rfl rfl) (evsC (E rfl rfl) (evsC (E rfl rfl) (evsC (E rfl rfl) (evsC (E rfl rfl) evs0)))) (S1 := CB _ _ _ _) (S2 := [_]) rfl (rex34 _ _ _ _ _ _ _) ?_
      rintro t179 S179 ⟨rfl, A179, c179, rfl⟩
      refine tb 2 rfl ?_
      refine AWH.one (i := 8) (by kernel_rfl) rfl ?_
      refine AWL.buildSlice1 rfl rfl (B rfl) rfl el_43 rfl (evsC (E rfl rfl) (evsC (E rfl rfl) evs0)) (Nat.le_of_ble_eq_true rfl) rfl rfl ?_
      refine tb 2 rfl ?_
      refine AWH.one (i := 9) (by kernel_rfl) rfl ?_
      refine C1 rfl ce_28 (E rfl rfl) (evsC (E rfl rfl) (evsC (E rfl rfl) evs0)) (S1 := CB _ _ _ _) (S2 := [_]) rfl (put35 _ _ _ _ [_, _]) ?_
      rintro t181 S181 ⟨rfl, A181, c181, rfl⟩
      refine tb 2 rfl ?_
      refine AWH.one (i := 14) (by kernel_rfl) rfl ?_
      refine C1 rfl ce_29 (E rfl rfl) (evsC (E rfl rfl) (evsC (E rfl rfl) (evsC (E rfl rfl) evs0))) (S1 := CB _ _ _ _) (S2 := [_]) rfl (two36 _ _ _ _ _ _) ?_
      rintro t186 S186 ⟨rfl, A186, c186, rfl⟩
      refine tb 2 rfl ?_
      refine AWH.done (by kernel_rfl) ?_
      refine retN .nil ?_
      refine cbx_end ?_
      rw [farF, if_neg h0f, if_neg h1f, if_neg h2f, if_neg h3f, if_neg h4f, if_neg h5f, if_neg h6f, if_neg h7f, if_neg h8f, if_neg h9f, if_pos h10t]
      skip
      simp only [List.append_assoc]
      rfl
     ·
      refine AWL.buildSlice1 rfl rfl (B rfl) rfl el_43 rfl (evsC (E rfl rfl) (evsC (E rfl rfl) evs0)) (Nat.le_of_ble_eq_true rfl) rfl rfl ?_
      refine tb 2 rfl ?_
      refine AWH.one (i := 7) (by kernel_rfl) rfl ?_
      refine C1 rfl ce_27 (E rfl rfl) (evsC (E rfl rfl) (evsC (E rfl rfl) (evsC (E rfl rfl) (evsC (E rfl rfl) evs0)))) (S1 := CB _ _ _ _) (S2 := [_]) rfl (rex34 _ _ _ _ _ _ _) ?_
      rintro t179 S179 ⟨rfl, A179, c179, rfl⟩
      refine tb 2 rfl ?_
      refine AWH.one (i := 9) (by kernel_rfl) rfl ?_
      refine C1 rfl ce_28 (E rfl rfl) (evsC (E rfl rfl) (evsC (E rfl rfl) evs0)) (S1 := CB _ _ _ _) (S2 := [_]) rfl (put35 _ _ _ _ [_, _]) ?_
      rintro t181 S181 ⟨rfl, A181, c181, rfl⟩
      refine tb 2 rfl ?_
      refine AWH.one (i := 14) (by kernel_rfl) rfl ?_
      refine C1 rfl ce_29 (E rfl rfl) (evsC (E rfl rfl) (evsC (E rfl rfl) (evsC (E rfl rfl) evs0))) (S1 := CB _ _ _ _) (S2 := [_]) rfl (two36 _ _ _ _ _ _) ?_
      rintro t186 S186 ⟨rfl, A186, c186, rfl⟩
      refine tb 2 rfl ?_
      refine AWH.done (by kernel_rfl) ?_
      refine retN .nil ?_
      refine cbx_end ?_
      rw [farF, if_neg h0f, if_neg h1f, if_neg h2f, if_neg h3f, if_neg h4f, if_neg h5f, if_neg h6f, if_neg h7f, if_neg h8f, if_neg h9f, if_pos h10t]
      skip
      simp only [List.append_assoc]
      rfl
    ·
     refine AWL.buildSlice1 rfl rfl (B rfl) rfl el_43 rfl (evsC (E rfl rfl) (evsC (E rfl rfl) evs0)) (Nat.le_of_ble_eq_true rfl) rfl rfl ?_
     refine tb 2 rfl ?_
     refine AWH.one (i := 2) (by kernel_rfl) rfl ?_
     refine C1 rfl ce_28 (E rfl rfl) (evsC (E rfl rfl) (evsC (E rfl rfl) evs0)) (S1 := CB _ _ _ _) (S2 := [_]) rfl (put35 _ _ _ _ [_]) ?_
     rintro t174 S174 ⟨rfl, A174, c174, rfl⟩
     refine tb 2 rfl ?_
     refine AWH.one (i := 7) (by kernel_rfl) rfl ?_
     refine C1 rfl ce_27 (E rfl rfl) (evsC (E rfl rfl) (evsC (E rfl rfl) (evsC (E rfl rfl) (evsC (E rfl rfl) evs0)))) (S1 := CB _ _ _ _) (S2 := [_]) rfl (rex34 _ _ _ _ _ _ _) ?_
     rintro t179 S179 ⟨rfl, A179, c179, rfl⟩
     refine tb 2 rfl ?_
     refine AWH.one (i := 9) (by kernel_rfl) rfl ?_
     refine C1 rfl ce_28 (E rfl rfl) (evsC (E rfl rfl) (evsC (E rfl rfl) evs0)) (S1 := CB _ _ _ _) (S2 := [_]) rfl (put35 _ _ _ _ [_, _]) ?_
     rintro t181 S181 ⟨rfl, A181, c181, rfl⟩
     refine tb 2 rfl ?_
     refine AWH.one (i := 14) (by kernel_rfl) rfl ?_
     refine C1 rfl ce_29 (E rfl rfl) (evsC (E rfl rfl) (evsC (E rfl rfl) (evsC (E rfl rfl) evs0))) (S1 := CB _ _ _ _) (S2 := [_]) rfl (two36 _ _ _ _ _ _) ?_
     rintro t186 S186 ⟨rfl, A186, c186, rfl⟩
     refine tb 2 rfl ?_
     refine AWH.done (by kernel_rfl) ?_
     refine retN .nil ?_
     refine cbx_end ?_
     rw [farF, if_neg h0f, if_neg h1f, if_neg h2f, if_neg h3f, if_neg h4f, if_neg h5f, if_neg h6f, if_neg h7f, if_neg h8f, if_neg h9f, if_pos h10t]
     skip
     simp only [List.append_assoc]
     rfl
   ·
    refine AWL.buildSlice1 rfl rfl (B rfl) rfl el_43 rfl (evsC (E rfl rfl) (evsC (E rfl rfl) evs0)) (Nat.le_of_ble_eq_true rfl) rfl rfl ?_
    refine tb 2 rfl ?_
    refine AWH.one (i := 1) (by kernel_rfl) rfl ?_
    refine AWL.buildSlice1 rfl rfl (B rfl) rfl el_43 rfl (evsC (E rfl rfl) evs0) (Nat.le_of_ble_eq_true rfl) rfl rfl ?_
    refine tb 2 rfl ?_
    refine AWH.one (i := 2) (by kernel_rfl) rfl ?_
    refine C1 rfl ce_28 (E rfl rfl) (evsC (E rfl rfl) (evsC (E rfl rfl) evs0)) (S1 := CB _ _ _ _) (S2 := [_]) rfl (put35 _ _ _ _ [_]) ?_
    rintro t174 S174 ⟨rfl, A174, c174, rfl⟩
    refine tb 2 rfl ?_
    refine AWH.one (i := 7) (by kernel_rfl) rfl ?_
    refine C1 rfl ce_27 (E rfl rfl) (evsC (E rfl rfl) (evsC (E rfl rfl) (evsC (E rfl rfl) (evsC (E rfl rfl) evs0)))) (S1 := CB _ _ _ _) (S2 := [_]) rfl (rex34 _ _ _ _ _ _ _) ?_
    rintro t179 S179 ⟨rfl, A179, c179, rfl⟩
    refine tb 2 rfl ?_
    refine AWH.one (i := 9) (by kernel_rfl) rfl ?_
    refine C1 rfl ce_28 (E rfl rfl) (evsC (E rfl rfl) (evsC (E rfl rfl) evs0)) (S1 := CB _ _ _ _) (S2 := [_]) rfl (put35 _ _ _ _ [_, _]) ?_
    rintro t181 S181 ⟨rfl, A181, c181, rfl⟩
    refine tb 2 rfl ?_
    refine AWH.one (i := 14) (by kernel_rfl) rfl ?_
    refine C1 rfl ce_29 (E rfl rfl) (evsC (E rfl rfl) (evsC (E rfl rfl) (evsC (E rfl rfl) evs0))) (S1 := CB _ _ _ _) (S2 := [_]) rfl (two36 _ _ _ _ _ _) ?_
    rintro t186 S186 ⟨rfl, A186, c186, rfl⟩
    refine tb 2 rfl ?_
    refine AWH.done (by kernel_rfl) ?_
    refine retN .nil ?_
    refine cbx_end ?_
    rw [farF, if_neg h0f, if_neg h1f, if_neg h2f, if_neg h3f, if_neg h4f, if_neg h5f, if_neg h6f, if_neg h7f, if_neg h8f, if_neg h9f, if_pos h10t]
    skip
    simp only [List.append_assoc]
    rfl
  try replace h10f := of_decide_eq_false h10f
  refine AW.rseq ?_
  refine Y1 (Yv.eql rfl eV eV) ?_
  refine Y1 (Yv.assign rfl eV) ?_
  refine nl ?_
  refine AW.cond rfl (fun h11t => ?_) (fun h11f => ?_)
  ·
   try replace h11t := of_decide_eq_true h11t
   refine AW.regionH (HeldBox b3 (insVals i)) rfl (tells_box (k := 2) rfl) ?_
   refine AWH.tk (i := 0) rfl rfl rfl (B rfl) (heldAll (freeMove rfl (E rfl rfl))) ?_
   refine AWH.tk (i := 3) rfl rfl rfl (B rfl) (heldAll (freeField rfl fo_23_1 (E rfl rfl))) ?_
   refine AWH.tk (i := 4) rfl rfl rfl (B rfl) (heldLoad rfl ag_3 (E rfl rfl) rfl) ?_
   refine AWH.tk (i := 5) rfl rfl rfl (B rfl) (heldAll (freeField rfl fo_23_2 (E rfl rfl))) ?_
   refine AWH.tk (i := 6) rfl rfl rfl (B rfl) (heldLoad rfl ag_3 (E rfl rfl) rfl) ?_
   refine AWH.tk (i := 10) rfl rfl rfl (B rfl) (heldAll (freeField rfl fo_23_1 (E rfl rfl))) ?_
   refine AWH.tk (i := 11) rfl rfl rfl (B rfl) (heldLoad rfl ag_3 (E rfl rfl) rfl) ?_
   refine AWH.tk (i := 12) rfl rfl rfl (B rfl) (heldAll (freeField rfl fo_23_2 (E rfl rfl))) ?_
   refine AWH.tk (i := 13) rfl rfl rfl (B rfl) (heldLoad rfl ag_3 (E rfl rfl) rfl) ?_
   refine AWH.two (i := 1) (j := 8) (by kernel_rfl) rfl rfl ?_ ?_
   ·
    refine AWL.buildSlice1 rfl rfl (B rfl) rfl el_43 rfl (evsC (E rfl rfl) evs0) (Nat.le_of_ble_eq_true rfl) rfl rfl ?_
    refine tb 2 rfl ?_
    refine AWH.two (i := 2) (j := 8) (by kernel_rfl) rfl rfl ?_ ?_
    ·
     refine C1 rfl ce_28 (E rfl rfl) (evsC (E rfl rfl) (evsC (E rfl rfl) evs0)) (S1 := CB _ _ _ _) (S2 := [_]) rfl (put35 _ _ _ _ [_]) ?_
     rintro t191 S191 ⟨rfl, A191, c191, rfl⟩
     refine tb 2 rfl ?_
     refine AWH.two (i := 7) (j := 8) (by kernel_rfl) rfl rfl ?_ ?_
     ·
      refine C1 rfl ce_27 (E rfl rfl) (evsC (E rfl rfl) (evsC (E rfl rfl) (evsC (E rfl rfl) (evsC (E rfl rfl) evs0)))) (S1 := CB _ _ _ _) (S2 := [_]) rfl (rex34 _ _ _ _ _ _ _) ?_
      rintro t196 S196 ⟨rfl, A196, c196, rfl⟩
      refine tb 2 rfl ?_
      refine AWH.one (i := 8) (by kernel_rfl) rfl ?_
      refine AWL.buildSlice1 rfl rfl (B rfl) rfl el_43 rfl (evsC (E rfl rfl) (evsC (E rfl rfl) evs0)) (Nat.le_of_ble_eq_true rfl) rfl rfl ?_
      refine tb 2 rfl ?_
      refine AWH.one (i := 9) (by kernel_rfl) rfl ?_
      refine C1 rfl ce_28 (E rfl rfl) (evsC (E rfl rfl) (evsC (E rfl rfl) evs0)) (S1 := CB _ _ _ _) (S2 := [_]) rfl (put35 _ _ _ _ [_, _]) ?_
      rintro t198 S198 ⟨rfl, A198, c198, rfl⟩
      refine tb 2 rfl ?_
      refine AWH.one (i := 14) (by kernel_rfl) rfl ?_
      refine C1 rfl ce_29 (E rfl rfl) (evsC (E rfl rfl) (evsC (E rfl rfl) (evsC (E rfl rfl) evs0))) (S1 := CB _ _ _ _) (S2 := [_]) rfl (two36 _ _ _ _ _ _) ?_
      rintro t203 S203 ⟨rfl, A203, c203, rfl⟩
      refine tb 2 rfl ?_
      refine AWH.done (by kernel_rfl) ?_
      refine retN .nil ?_
      refine cbx_end ?_
      rw [farF, if_neg h0f, if_neg h1f, if_neg h2f, if_neg h3f, if_neg h4f, if_neg h5f, if_neg h6f, if_neg h7f, if_neg h8f, if_neg h9f, if_neg h10f, if_pos h11t]
      skip
      simp only [List.append_assoc]
      rfl
     ·
      refine AWL.buildSlice1 rfl rfl (B rfl) rfl el_43 rfl (evsC (E rfl rfl) (evsC (E rfl rfl) evs0)) (Nat.le_of_ble_eq_true rfl) rfl rfl ?_
      refine tb 2 rfl ?_
      refine AWH.one (i := 7) (by kernel_rfl) rfl ?_
      refine C1 rfl ce_27 (E rfl rfl) (evsC (E rfl rfl) (evsC (E rfl rfl) (evsC (E rfl rfl) (evsC (E rfl rfl) evs0)))) (S1 := CB _ _ _ _) (S2 := [_]) rfl (rex34 _ _ _ _ _ _ _) ?_
      rintro t196 S196 ⟨rfl, A196, c196, rfl⟩
      refine tb 2 rfl ?_
      refine AWH.one (i := 9) (by kernel_rfl) rfl ?_
      refine C1 rfl ce_28 (E rfl rfl) (evsC (E rfl rfl) (evsC (E rfl rfl) evs0)) (S1 := CB _ _ _ _) (S2 := [_]) rfl (put35 _ _ _ _ [_, _]) ?_
      rintro t198 S198 ⟨rfl, A198, c198, rfl⟩
      refine tb 2 rfl ?_
      refine AWH.one (i := 14) (by kernel_rfl) rfl ?_
      refine C1 rfl ce_29 (E rfl rfl) (evsC (E rfl rfl) (evsC (E rfl rfl) (evsC (E rfl rfl) evs0))) (S1 := CB _ _ _ _) (S2 := [_]) rfl (two36 _ _ _ _ _ _) ?_
      rintro t203 S203 ⟨rfl, A203, c203, rfl⟩
      refine tb 2 rfl ?_
      refine AWH.done (by kernel_rfl) ?_
      refine retN .nil ?_
      refine cbx_end ?_
      rw [farF, if_neg h0f, if_neg h1f, if_neg h2f, if_neg h3f, if_neg h4f, if_neg h5f, if_neg h6f, if_neg h7f, if_neg h8f, if_neg h9f, if_neg h10f, if_pos h11t]
      skip
      simp only [List.append_assoc]
      rfl
    ·
     refine AWL.buildSlice1 rfl rfl (B rfl) rfl el_43 rfl (evsC (E rfl rfl) (evsC (E rfl rfl) evs0)) (Nat.le_of_ble_eq_true rfl) rfl rfl ?_
     refine tb 2 rfl ?_
     refine AWH.one (i := 2) (by kernel_rfl) rfl ?_
     refine C1 rfl ce_28 (E rfl rfl) (evsC (E rfl rfl) (evsC (E rfl rfl) evs0)) (S1 := CB _ _ _ _) (S2 := [_]) rfl (put35 _ _ _ _ [_]) ?_
     rintro t191 S191 ⟨rfl, A191, c191, rfl⟩
     refine tb 2 rfl ?_
     refine AWH.one (i := 7) (by kernel_rfl) rfl ?_
     refine C1 rfl ce_27 (E rfl rfl) (evsC (E rfl rfl) (evsC (E rfl rfl) (evsC (E rfl rfl) (evsC (E rfl rfl) evs0)))) (S1 := CB _ _ _ _) (S2 := [_]) rfl (rex34 _ _ _ _ _ _ _) ?_
     rintro t196 S196 ⟨rfl, A196, c196, rfl⟩
     refine tb 2 rfl ?_
     refine AWH.one (i := 9) (by kernel_rfl) rfl ?_
     refine C1 rfl ce_28 (E rfl rfl) (evsC (E rfl rfl) (evsC (E rfl rfl) evs0)) (S1 := CB _ _ _ _) (S2 := [_]) rfl (put35 _ _ _ _ [_, _]) ?_
     rintro t198 S198 ⟨rfl, A198, c198, rfl⟩
     refine tb 2 rfl ?_
     refine AWH.one (i := 14) (by kernel_rfl) rfl ?_
     refine C1 rfl ce_29 (E rfl rfl) (evsC (E rfl rfl) (evsC (E rfl rfl) (evsC (E rfl rfl) evs0))) (S1 := CB _ _ _ _) (S2 := [_]) rfl (two36 _ _ _ _ _ _) ?_
     rintro t203 S203 ⟨rfl, A203, c203, rfl⟩
     refine tb 2 rfl ?_
     refine AWH.done (by kernel_rfl) ?_
     refine retN .nil ?_
     refine cbx_end ?_
     rw [farF, if_neg h0f, if_neg h1f, if_neg h2f, if_neg h3f, if_neg h4f, if_neg h5f, if_neg h6f, if_neg h7f, if_neg h8f, if_neg h9f, if_neg h10f, if_pos h11t]
     skip
     simp only [List.append_assoc]
     rfl
   ·
    refine AWL.buildSlice1 rfl rfl (B rfl) rfl el_43 rfl (evsC (E rfl rfl) (evsC (E rfl rfl) evs0)) (Nat.le_of_ble_eq_true rfl) rfl rfl ?_
    refine tb 2 rfl ?_
    refine AWH.one (i := 1) (by kernel_rfl) rfl ?_
    refine AWL.buildSlice1 rfl rfl (B rfl) rfl el_43 rfl (evsC (E rfl rfl) evs0) (Nat.le_of_ble_eq_true rfl) rfl rfl ?_
    refine tb 2 rfl ?_
    refine AWH.one (i := 2) (by kernel_rfl) rfl ?_
    refine C1 rfl ce_28 (E rfl rfl) (evsC (E rfl rfl) (evsC (E rfl rfl) evs0)) (S1 := CB _ _ _ _) (S2 := [_]) rfl (put35 _ _ _ _ [_]) ?_
    rintro t191 S191 ⟨rfl, A191, c191, rfl⟩
    refine tb 2 rfl ?_
    refine AWH.one (i := 7) (by kernel_rfl) rfl ?_
    refine C1 rfl ce_27 (E rfl rfl) (evsC (E rfl rfl) (evsC (E rfl rfl) (evsC (E rfl rfl) (evsC (E rfl rfl) evs0)))) (S1 := CB _ _ _ _) (S2 := [_]) rfl (rex34 _ _ _ _ _ _ _) ?_
    rintro t196 S196 ⟨rfl, A196, c196, rfl⟩
    refine tb 2 rfl ?_
    refine AWH.one (i := 9) (by kernel_rfl) rfl ?_
    refine C1 rfl ce_28 (E rfl rfl) (evsC (E rfl rfl) (evsC (E rfl rfl) evs0)) (S1 := CB _ _ _ _) (S2 := [_]) rfl (put35 _ _ _ _ [_, _]) ?_
    rintro t198 S198 ⟨rfl, A198, c198, rfl⟩
    refine tb 2 rfl ?_
    refine AWH.one (i := 14) (by kernel_rfl) rfl ?_
    refine C1 rfl ce_29 (E rfl rfl) (evsC (E rfl rfl) (evsC (E rfl rfl) (evsC (E rfl rfl) evs0))) (S1 := CB _ _ _ _) (S2 := [_]) rfl (two36 _ _ _ _ _ _) ?_
    rintro t203 S203 ⟨rfl, A203, c203, rfl⟩
    refine tb 2 rfl ?_
    refine AWH.done (by kernel_rfl) ?_
    refine retN .nil ?_
    refine cbx_end ?_
    rw [farF, if_neg h0f, if_neg h1f, if_neg h2f, if_neg h3f, if_neg h4f, if_neg h5f, if_neg h6f, if_neg h7f, if_neg h8f, if_neg h9f, if_neg h10f, if_pos h11t]
    skip
    simp only [List.append_assoc]
    rfl
  try replace h11f := of_decide_eq_false h11f
  exfalso; omega

end Go.Proofs.YtjndpakhmgapjaaDoor
