/-
  A GRAPH IN MEMORY OF ITS OWN, with a mark behind each list.
-/
import Derived.Test.YtbndnmmceccbkaaRef
namespace Go.Proofs.Ytbndnmmceccbkaa
open Go Go.RowKit
section
variable {cx : Cx} {env : Env} {S : St} {o : Oper} {g : Bool} {x y z : Operand} {ops : Array Oper} {l : List Oper} {K : Env → St → Prop} {Q : Exit → Env → St → Prop} {d : Nat}
/-- copy into a row from its head, elements of any size. -/
theorem AWL.copyRowK {t tx e : TypeId} {b n c m i k : Nat} {zs : List Value} {A : Option Addr} {cs news : List T} (hg : o.guard = none) (hd : o.dst = some d) (hN : d < cx.N)
    (ho : o.op = .call { callee := .builtin .copy, args := #[x, y], argTypes := #[t, tx] }) (he : elemOf cx.P t = some (e, k, b, zs)) (hk : 0 < k) (hi : S[i]? = some (.row A n c e k cs)) (hx : Ev env true x (.v (.slice A n c))) (hy : SrcT cx env S y tx k m news)
    (hmn : m ≤ n) (h0 : 0 < n)
    (hr : AWL cx ops l K ((d, true, .v (.int .i64 (m : Int))) :: env) (S.set i (.row A n c e k (news ++ cs.drop (m * k))))) : AWL cx ops (o :: l) K env S := by
  refine AWL.eff hg hd hN fun a w hs => ?_
  obtain ⟨us, hrow, hV⟩ := hs.row hi
  obtain ⟨ns, hVn, hsrc⟩ := hy a w hs
  obtain ⟨h1, i', z', h2, _, h3, _⟩ := elemOf_spec he
  have hul : us.length = n * k := hrow.1
  have hnl : ns.length = m * k := hsrc.newsLen
  have hcl : news.length = m * k := by rw [hVn.len, hnl]
  have hmk := Nat.mul_le_mul_right k hmn
  obtain ⟨gb, rfl⟩ := hrow.some (by rw [hul]; exact Nat.mul_pos h0 hk)
  obtain ⟨hst, hrow'⟩ := hrow.write (P := cx.P) hVn.one (p := 0) (by omega)
  have hsim := hs.wrote hi hV hVn hrow'
  refine ⟨.int .i64 (m : Int), w.setCells gb 0 ns, _, _, ?_, hsim, .v _, ?_⟩
  · have hcells := hsrc.cells
    have hlen := hsrc.len w
    have hmin' : m.min n = m := Nat.min_eq_left hmn
    have hsz : (sizeOf e).run cx.P w = .ok k w := by simp [sizeOf, typeInfo, h2, h3, Sem.run_bind, Sem.run_pure]
    simp [execOp, ho, resolve, invoke, builtin, Sem.run_bind, Sem.run_pure, hx.val hs rfl, Builtin.copy_, run_underlying h1, hlen, hsz, hmin', hcells, hst, goInt]
  · rw [hcl, List.take_zero, List.nil_append, Nat.zero_add]
    exact hr
end
theorem fits_small {r : RefV} {n : Nat} (h : fitsF r n = true) (hk : r.kind = 1) : -4611686018427387904 ≤ r.n ∧ r.n ≤ 4611686018427387903 := by
  unfold fitsF at h
  rw [if_pos hk] at h
  simpa using h
def mark77 : List T := [.v (.int .i64 0), .v (.int .i64 77)]
def refsM (l : List RefV) : T := .sp 2 l.length (l.flatMap refCells ++ mark77)
def thingMCells (t : Thing) : List T := [.v (.int .i64 t.kind), .v (.int .i64 t.tag), sv t.bytes, refsM t.refs]
def gMCells (g : Graph) : List T := [.sl 4 (g.things.flatMap thingMCells), refsM g.roots]
def graphM (g : Graph) : T := .agg (gMCells g)
theorem refsM_le (l : List RefV) : Le (refsM l) (refsT l) := fun w L u h => by
  have := sp_sl (by decide) w L u h
  rw [List.take_left' len_refs] at this
  exact this
theorem cellsM_le (g : Graph) : Les (gMCells g) (gCells g) := .cons (.sl (.flatMap fun t _ => .cons .refl (.cons .refl (.cons .refl (.cons (refsM_le t.refs) .refl))))) (.cons (refsM_le g.roots) .refl)
theorem graphM_le (g : Graph) : Le (graphM g) (graphT g) := .agg (cellsM_le g)
theorem tMk (t : Thing) : (thingMCells t).length = 4 := rfl
theorem len_thingsM {l : List Thing} : (l.flatMap thingMCells).length = l.length * 4 := len_flat tMk l
theorem thingM_refs {l : List Thing} {j : Nat} (h : j < l.length) : (l.flatMap thingMCells)[j * 4 + 3]? = some (refsM (l.getD j default).refs) := flat_at tMk h 3 (by decide)
theorem takeM_step {l : List Thing} {j : Nat} (h : j < l.length) : (l.take (j + 1)).flatMap thingMCells = (l.take j).flatMap thingMCells ++ thingMCells (l.getD j default) := by
  rw [take_at h, List.flatMap_append, List.flatMap_cons, List.flatMap_nil, List.append_nil]
theorem mark_len (l : List RefV) : (l.flatMap refCells ++ mark77).length = (l.length + 1) * 2 := by
  rw [List.length_append, len_refs]; show _ + 2 = _; omega
theorem rep_drop (n : Nat) (z : List T) (k : Nat) (hz : z.length = k) : ∀ m, m ≤ n → ((List.replicate n z).flatten).drop (m * k) = (List.replicate (n - m) z).flatten := by
  induction n with
  | zero => intro m h; obtain rfl : m = 0 := by omega
            simp
  | succ n ih =>
    intro m h
    cases m with
    | zero => simp
    | succ m =>
      rw [List.replicate_succ, List.flatten_cons, Nat.add_mul, Nat.one_mul, Nat.add_comm, List.drop_append, List.drop_of_length_le (by omega), hz, List.nil_append, Nat.add_sub_cancel_left, ih m (by omega), Nat.add_sub_add_right]
theorem mark_cells (l : List RefV) : (l.flatMap refCells ++ ((List.replicate (l.length + 1) (List.map T.v [Value.int .i64 0, Value.int .i64 0])).flatten).drop (l.length * 2)).set (l.length * 2 + 1) (.v (.int .i64 77)) = l.flatMap refCells ++ mark77 := by
  rw [rep_drop _ _ 2 rfl _ (by omega), Nat.add_sub_cancel_left, List.set_append_right _ _ (by rw [len_refs]; omega), len_refs, Nat.add_sub_cancel_left]
  rfl
theorem mark_at (l : List RefV) : ((l.flatMap refCells ++ mark77).take ((l.length + 1) * 2))[l.length * 2 + 1]? = some (.v (.int .i64 77)) := by
  rw [List.getElem?_take, if_pos (by omega), List.getElem?_append_right (by rw [len_refs]; omega), len_refs, Nat.add_sub_cancel_left]
  rfl
end Go.Proofs.Ytbndnmmceccbkaa
