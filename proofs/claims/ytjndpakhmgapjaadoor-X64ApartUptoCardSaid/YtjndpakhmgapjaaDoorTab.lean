/-
  THE TABLE of powers of ten, and any number's text off the library's contract (laid by the kit's tool).
-/
import Derived.Shelf.LaysM
import Derived.Shelf.Strconv.Itoa4
import Derived.Test.YtjndpakhmgapjaaDoorProg
import Derived.Test.YtjndpakhmgapjaaDoorAw24
namespace Go.Proofs.YtjndpakhmgapjaaDoor
open Go Go.RowKit Go.Shelf
set_option linter.unusedVariables false
def laysM173_ren : Go.Shelf.Ren := ⟨fun | 173 => 41 | 246 => 56 | 283 => 68 | 284 => 69 | 285 => 70 | 286 => 71 | 129 => 80 | 317 => 79 | 318 => 81 | 319 => 82 | 320 => 83 | 337 => 84 | 338 => 85 | n => n, fun | 2 => 2 | 3 => 3 | 9 => 9 | 4 => 4 | 171 => 93 | 0 => 0 | 53 => 78 | 37 => 24 | 5 => 5 | 173 => 96 | 212 => 104 | 51 => 105 | 20 => 20 | 213 => 106 | 46 => 79 | 232 => 110 | 233 => 111 | n => n, fun | 17 => 0 | 18 => 1 | 19 => 2 | n => n⟩
theorem laysM173 : Go.Proofs.LaysM.n173 Tryd.prog laysM173_ren := {
  mixed := by kernel_rfl
  f129 := Tryd.func80.trans (congrArg some (by kernel_rfl))
  f173 := Tryd.func41.trans (congrArg some (by kernel_rfl))
  f246 := Tryd.func56.trans (congrArg some (by kernel_rfl))
  f283 := Tryd.func68.trans (congrArg some (by kernel_rfl))
  f284 := Tryd.func69.trans (congrArg some (by kernel_rfl))
  f285 := Tryd.func70.trans (congrArg some (by kernel_rfl))
  f286 := Tryd.func71.trans (congrArg some (by kernel_rfl))
  f317 := Tryd.func79.trans (congrArg some (by kernel_rfl))
  f318 := Tryd.func81.trans (congrArg some (by kernel_rfl))
  f319 := Tryd.func82.trans (congrArg some (by kernel_rfl))
  f320 := Tryd.func83.trans (congrArg some (by kernel_rfl))
  f337 := Tryd.func84.trans (congrArg some (by kernel_rfl))
  f338 := Tryd.func85.trans (congrArg some (by kernel_rfl))
  t0 := Tryd.underlying0
  a0 := Tryd.isAgg0
  z0 := Tryd.sizeOf0
  v0 := Tryd.zeroValue0
  t2 := Tryd.underlying2
  a2 := Tryd.isAgg2
  z2 := Tryd.sizeOf2
  v2 := Tryd.zeroValue2
  t3 := Tryd.underlying3
  a3 := Tryd.isAgg3
  z3 := Tryd.sizeOf3
  v3 := Tryd.zeroValue3
  t4 := Tryd.underlying4
  a4 := Tryd.isAgg4
  z4 := Tryd.sizeOf4
  v4 := Tryd.zeroValue4
  t5 := Tryd.underlying5
  a5 := Tryd.isAgg5
  z5 := Tryd.sizeOf5
  v5 := Tryd.zeroValue5
  t9 := Tryd.underlying9
  a9 := Tryd.isAgg9
  z9 := Tryd.sizeOf9
  v9 := Tryd.zeroValue9
  t20 := Tryd.underlying20
  a20 := Tryd.isAgg20
  z20 := Tryd.sizeOf20
  v20 := Tryd.zeroValue20
  t37 := Tryd.underlying24
  a37 := Tryd.isAgg24
  z37 := Tryd.sizeOf24
  v37 := Tryd.zeroValue24
  t46 := Tryd.underlying79
  a46 := Tryd.isAgg79
  z46 := Tryd.sizeOf79
  v46 := Tryd.zeroValue79
  t51 := Tryd.underlying105
  a51 := Tryd.isAgg105
  z51 := Tryd.sizeOf105
  v51 := Tryd.zeroValue105
  t53 := Tryd.underlying78
  a53 := Tryd.isAgg78
  z53 := Tryd.sizeOf78
  v53 := Tryd.zeroValue78
  t171 := Tryd.underlying93
  a171 := Tryd.isAgg93
  z171 := Tryd.sizeOf93
  v171 := Tryd.zeroValue93
  t173 := Tryd.underlying96
  a173 := Tryd.isAgg96
  z173 := Tryd.sizeOf96
  v173 := Tryd.zeroValue96
  t212 := Tryd.underlying104
  a212 := Tryd.isAgg104
  z212 := Tryd.sizeOf104
  v212 := Tryd.zeroValue104
  t213 := Tryd.underlying106
  a213 := Tryd.isAgg106
  z213 := Tryd.sizeOf106
  t232 := Tryd.underlying110
  a232 := Tryd.isAgg110
  z232 := Tryd.sizeOf110
  v232 := Tryd.zeroValue110
  t233 := Tryd.underlying111
  a233 := Tryd.isAgg111
  z233 := Tryd.sizeOf111
  v233 := Tryd.zeroValue111
  g17 := by kernel_rfl
  g18 := by kernel_rfl
  g19 := by kernel_rfl
  i0 := by kernel_rfl
  i2 := by kernel_rfl
  i3 := by kernel_rfl
  i4 := by kernel_rfl
  i5 := by kernel_rfl
  i9 := by kernel_rfl
  i20 := by kernel_rfl
  i37 := by kernel_rfl
  i46 := by kernel_rfl
  i51 := by kernel_rfl
  i53 := by kernel_rfl
  i171 := by kernel_rfl
  i173 := by kernel_rfl
  i212 := by kernel_rfl
  i232 := by kernel_rfl
  i233 := by kernel_rfl
  m17 := by kernel_rfl
  m18 := by kernel_rfl
  m19 := by kernel_rfl }
def tabG : Gv := ⟨0, (Lib.pow10Tab.map fun z => Value.int .u64 z).toArray⟩
theorem tab_named : Tryd.prog.globalNamed "internal/strconv.uint64pow10" = some 0 := by kernel_rfl
theorem tab_is {w : World} (h : tabG.is w) : Lib.TabIs Tryd.prog w "internal/strconv.uint64pow10" .u64 Lib.pow10Tab := by
  obtain ⟨ty, fr, e⟩ := h
  unfold Lib.TabIs World.var?
  rw [tab_named, Option.bind_some, show w.heap[0]? = some (.cells tabG.cs ty fr) from e]
  rfl
theorem tab_of {w : World} (h : Lib.TabIs Tryd.prog w "internal/strconv.uint64pow10" .u64 Lib.pow10Tab) : tabG.is w := by
  unfold Lib.TabIs World.var? at h
  rw [tab_named, Option.bind_some] at h
  split at h
  · rename_i cs ty fr e
    rw [Option.some.injEq] at h
    exact ⟨ty, fr, by rw [← show cs = tabG.cs from h]; exact e⟩
  · cases h
theorem formatInt41G (n : Int) (h0 : -9223372036854775808 ≤ n ∧ n ≤ 9223372036854775807) : ACallsG Tryd.prog tabG 41 [.v (.int .i64 n), .v (.int .i64 10)] [] (fun t_ S => t_ = sv (Lib.itoa n)) := by
  intro X w args hG _ hX _ _ hl ha
  obtain ⟨u, v, rfl⟩ : ∃ u v, args = [u, v] := by
    match args, hl with
    | [u, v], _ => exact ⟨u, v, rfl⟩
  have h1 := (ha 0 _ u rfl rfl).v_inv
  have h2 := (ha 1 _ v rfl rfl).v_inv
  subst h1; subst h2
  refine (Any.strconv_FormatInt_10 laysM173 n h0.1 h0.2 w (tab_is hG)).mono ?_
  rintro e w' ⟨rfl, k, os, rfl⟩
  refine ⟨_, _, [], rfl, ⟨rfl, rfl, rfl, ?_, fun j hj _ => ?_⟩, by simp [M], fun b hb => (by simp [M] at hb), fun e he => (by cases he), .v _, rfl⟩
  · show w.heap.size ≤ ((w.drewN k).heap ++ os).size
    rw [Array.size_append]
    exact Nat.le_add_right _ _
  · show ((w.drewN k).heap ++ os)[j]? = w.heap[j]?
    exact Array.getElem?_append_left hj
end Go.Proofs.YtjndpakhmgapjaaDoor
