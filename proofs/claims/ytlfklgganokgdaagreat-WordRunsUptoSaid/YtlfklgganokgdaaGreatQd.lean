/-
  TEXTS JOINED: Aw14, Facts, Au, Wd, Wk1, Wk2, Wn.
-/
import Derived.Test.YtlfklgganokgdaaGreatRows
import Derived.ProofKit
import Derived.OpenShut
import Derived.JoinedCond
import Derived.Carry
import Derived.Deep.Slices
import Derived.Test.YtlfklgganokgdaaGreatQc
set_option linter.unusedSimpArgs false
set_option linter.unusedVariables false
set_option linter.unusedSectionVars false
set_option linter.unnecessarySimpa false
set_option maxHeartbeats 64000000
namespace Go.Proofs.YtlfklgganokgdaaGreat
open Go.ChangeShapes Go.WideShapes Go.ChangeAt Go Go.RowKit
theorem bulk_one {H : Type} (d : DataW H) : 1 ≤ Rows.uptoBulk d := by
 cases d with
 | lit l => cases l <;> simp [Rows.uptoBulk]
 | _ => simp [Rows.uptoBulk]
theorem bulk_append {H : Type} (l r : List (DataW H)) : Rows.uptoBulkAll (l ++ r) = Rows.uptoBulkAll l + Rows.uptoBulkAll r := by
 induction l with
 | nil => simp [Rows.uptoBulkAll]
 | cons x s ih => simp only [Rows.uptoBulkAll, List.cons_append, ih]; omega
theorem bound {H : Type} {l : List (DataW H)} (hk : Rows.uptoSmall H l = true) : Rows.uptoBulkAll l ≤ 1048576 := by
 simpa [Rows.uptoSmall] using hk
theorem cell_lt {w : World} {a : Addr} {v : Value} (h : w.cell? a = some v) : a.block < w.heap.size := by
 rcases Nat.lt_or_ge a.block w.heap.size with hn | hn
 ·exact hn
 simp [World.cell?, Array.getElem?_eq_none hn] at h
structure Opens (P : Program) (t : TypeId) {X : Type} (k : Nat) (cells : X → List T) (bulk : X → Nat) (ok : X → Prop) : Prop where
 size : P.cellsOf t = k
 one : ∀ {H : Type} {enc : TypeId × Value → H} {w : World} {base : Nat} {spare : Nat → Bool} {held : Bool} {fuel : Nat} {cs : List Value} {x : DataW H × List MemPlace},
  DataW.trod enc P w base spare held fuel t cs = some x → ∃ a, ok a ∧ VReps w [] (cells a) cs ∧ cs.length = k ∧ bulk a ≤ Rows.uptoBulk x.1
theorem Opens.turn {P : Program} {t : TypeId} {X Y : Type} {k : Nat} {cells : X → List T} {cells' : Y → List T} {bulk : X → Nat} {bulk' : Y → Nat} {ok : X → Prop} {ok' : Y → Prop} (h : Opens P t k cells bulk ok) (g : X → Y)
    (h1 : ∀ a, ok a → cells' (g a) = cells a ∧ bulk' (g a) ≤ bulk a ∧ ok' (g a)) : Opens P t k cells' bulk' ok' :=
 ⟨h.size, fun e => by
  obtain ⟨a, h2, h3, h4, h5⟩ := h.one e
  obtain ⟨h6, h7, h8⟩ := h1 a h2
  exact ⟨g a, h8, h6 ▸ h3, h4, Nat.le_trans h7 h5⟩⟩
theorem VReps.single {w : World} {L : List Nat} {t : T} {u : Value} (h : VRep w L t u) (h1 : u.oneCell' = true) : VReps w L [t] [u] := .cons h h1 .nil
theorem opens_int {P : Program} {t : TypeId} {k : IntKind} (ht : P.underlying t = some (.int k)) (hs : P.cellsOf t = 1) : Opens P t 1 (fun z : Int => [.v (.int k z)]) (fun _ => 1) (fun z => (Lit.int k z).wf = true) :=
 ⟨hs, fun e => by
  obtain ⟨n, rfl, rfl, h⟩ := DataW.trod_int ht e
  exact ⟨n, h, .single (.v _) rfl, rfl, bulk_one _⟩⟩
theorem opens_bool {P : Program} {t : TypeId} (ht : P.underlying t = some .bool) (hs : P.cellsOf t = 1) : Opens P t 1 (fun b : Bool => [.v (.bool b)]) (fun _ => 1) (fun _ => True) :=
 ⟨hs, fun e => by
  obtain ⟨b, rfl, rfl⟩ := DataW.trod_bool ht e
  exact ⟨b, trivial, .single (.v _) rfl, rfl, bulk_one _⟩⟩
theorem opens_string {P : Program} {t : TypeId} (ht : P.underlying t = some .string) (hs : P.cellsOf t = 1) : Opens P t 1 (fun l : List UInt8 => [.v (.string ⟨l.toArray⟩)]) (fun l => l.length + 1) (fun l => l.length ≤ maxLen) :=
 ⟨hs, fun e => by
  obtain ⟨s, rfl, rfl, h⟩ := DataW.trod_string ht e
  exact ⟨s.data.toList, by simpa using h, .single (.v _) rfl, rfl, by simp [Rows.uptoBulk]⟩⟩
structure OpensF (P : Program) (fs : List Field) (o : Nat) {X : Type} (k : Nat) (cells : X → List T) (bulk : X → Nat) (ok : X → Prop) : Prop where
 all : ∀ {H : Type} {enc : TypeId × Value → H} {w : World} {base : Nat} {spare : Nat → Bool} {held : Bool} {n : Nat} {cs : List Value} {ys : List (DataW H × List MemPlace)},
  ys.length = fs.length → cs.length = o + k → (∀ (i : Nat) (f : Field), fs[i]? = some f → DataW.trod enc P w base spare held n f.type ((cs.drop f.offset).take (P.cellsOf f.type)) = ys[i]?) →
   ∃ a, ok a ∧ VReps w [] (cells a) (cs.drop o) ∧ bulk a ≤ Rows.uptoBulkAll (ys.map (·.1))
theorem opensF_nil {P : Program} {o : Nat} : OpensF P [] o 0 (fun _ : Unit => []) (fun _ => 0) (fun _ => True) :=
 ⟨fun {H enc w base spare held n cs ys} h1 h2 _ => ⟨(), trivial, by rw [List.drop_of_length_le (by omega)]; exact .nil, Nat.zero_le _⟩⟩
theorem opensF_cons {P : Program} {f : Field} {fs : List Field} {o k m : Nat} {X Y : Type} {cells : X → List T} {cells' : Y → List T} {bulk : X → Nat} {bulk' : Y → Nat} {ok : X → Prop} {ok' : Y → Prop} (h0 : Opens P f.type k cells bulk ok) (ho : f.offset = o)
    (h : OpensF P fs (o + k) m cells' bulk' ok') : OpensF P (f :: fs) o (k + m) (fun a : X × Y => cells a.1 ++ cells' a.2) (fun a => bulk a.1 + bulk' a.2) (fun a => ok a.1 ∧ ok' a.2) :=
 ⟨fun {H enc w base spare held n cs ys} h1 h2 h3 => by
  match ys, h1 with
  | y :: ys, h1 =>
   have e := h3 0 f rfl
   rw [ho, h0.size] at e
   simp only [List.getElem?_cons_zero] at e
   obtain ⟨a, q1, q2, q3, q4⟩ := h0.one e
   obtain ⟨b, r1, r2, r3⟩ := h.all (ys := ys) (cs := cs) (by simpa using h1) (by omega) (fun i g hg => by simpa using h3 (i + 1) g (by simpa using hg))
   refine ⟨(a, b), ⟨q1, r1⟩, ?_, by simp only [List.map_cons, Rows.uptoBulkAll]; omega⟩
   rw [← List.drop_drop] at r2
   have := q2.append r2
   rwa [List.take_append_drop] at this⟩
theorem opens_struct {P : Program} {t : TypeId} {fs : Array Field} {X : Type} {k : Nat} {cells : X → List T} {bulk : X → Nat} {ok : X → Prop} (ht : P.underlying t = some (.struct fs)) (hs : P.cellsOf t = k) (h : OpensF P fs.toList 0 k cells bulk ok) :
    Opens P t k cells (fun a => bulk a + 1) ok :=
 ⟨hs, fun e => by
  obtain ⟨xs, n, _, rfl, hl, hlen, hf⟩ := DataW.trod_struct ht e
  obtain ⟨a, h1, h2, h3⟩ := h.all (by simpa using hlen) (by omega) (fun i f hi => hf i f (by simpa using hi))
  exact ⟨a, h1, by simpa using h2, by omega, by simp only [Rows.uptoBulk]; omega⟩⟩
def sumBulk {X : Type} (bulk : X → Nat) (l : List X) : Nat := (l.map bulk).sum
theorem opens_slice {P : Program} {t e : TypeId} {X : Type} {k : Nat} {cells : X → List T} {bulk : X → Nat} {ok : X → Prop} (ht : P.underlying t = some (.slice e)) (hs : P.cellsOf t = 1) (hk : 0 < k) (h : Opens P e k cells bulk ok) :
    Opens P t 1 (fun l : List X => [.sl k (l.flatMap cells)]) (fun l => sumBulk bulk l + 1) (fun l => (∀ a ∈ l, ok a) ∧ l.length ≤ maxLen) :=
 ⟨hs, fun {H enc w base spare held fuel cs x} ex => by
  rcases Go.Deep.open_slice ht ex with ⟨rfl, rfl⟩ | ⟨a, len, cap, m, n, D, Pl, rfl, hb, hl, hm, hmm, rfl, hx⟩
  ·exact ⟨[], ⟨fun a ha => (by cases ha), Nat.zero_le _⟩, .single (.sl0 (Nat.zero_le _)) rfl, rfl, by simp [sumBulk, Rows.uptoBulk]⟩
  ·have hlm : len ≤ m := by rw [hmm]; split <;> omega
   rw [h.size] at hx
   have key : ∀ q, q ≤ len → ∃ (l : List X) (us : List Value), l.length = q ∧ us.length = q * k ∧ VReps w [] (l.flatMap cells) us ∧ (∀ j u, us[j]? = some u → w.cell? (a.add j) = some u) ∧ (∀ a ∈ l, ok a) ∧
       sumBulk bulk l ≤ Rows.uptoBulkAll ((List.range q).map D) := by
    intro q
    induction q with
    | zero => exact fun _ => ⟨[], [], rfl, by simp, .nil, fun j u hu => by simp at hu, fun a ha => (by cases ha), by simp [sumBulk]⟩
    | succ q ih =>
     intro hq
     obtain ⟨l, us, h1, h2, h3, h4, h5, h6⟩ := ih (by omega)
     obtain ⟨cs', h7, h8⟩ := hx q (by omega)
     obtain ⟨a', h9, h10, h11, h12⟩ := h.one h8
     obtain ⟨_, _, h13⟩ := World.cells?_some h7
     refine ⟨l ++ [a'], us ++ cs', by simp [h1], ?_, ?_, ?_, ?_, ?_⟩
     ·rw [List.length_append, h2, h11, Nat.succ_mul]
     ·rw [List.flatMap_append]
      simpa using h3.append h10
     ·intro j u hu
      by_cases hj : j < us.length
      ·rw [List.getElem?_append_left hj] at hu
       exact h4 j u hu
      ·rw [List.getElem?_append_right (by omega)] at hu
       have hjl := (List.getElem?_eq_some_iff.1 hu).1
       have := h13 (j - us.length) (by omega)
       rw [add_add', hu] at this
       rw [← this]
       congr 2
       omega
     ·intro y hy
      rcases List.mem_append.1 hy with hy | hy
      ·exact h5 y hy
      ·rcases List.mem_singleton.1 hy with rfl
       exact h9
     ·rw [List.range_succ, List.map_append, bulk_append]
      simp only [sumBulk, List.map_append, List.sum_append, List.map_cons, List.map_nil, List.sum_cons, List.sum_nil, Rows.uptoBulkAll] at h6 h12 ⊢
      omega
   obtain ⟨l, us, h1, h2, h3, h4, h5, h6⟩ := key len (Nat.le_refl _)
   refine ⟨l, ⟨h5, by omega⟩, .single ?_ rfl, rfl, by simp only [Rows.uptoBulk]; omega⟩
   rcases Nat.eq_zero_or_pos len with rfl | hpos
   ·rw [List.eq_nil_of_length_eq_zero h1]
    exact .sl0 hm
   ·have hlu := h3.len
    have hup : 0 < us.length := by rw [h2]; exact Nat.mul_pos hpos hk
    have hc0 := h4 0 _ (List.getElem?_eq_getElem hup)
    exact .sl hpos (by rw [hlu, h2]) hlu hl hm (by have := cell_lt hc0; rwa [block_add] at this) (by simp) h4 h3.at_ h3.one⟩
def byteOfInt (z : Int) : UInt8 := UInt8.ofNat z.toNat
theorem byteOfInt_back {z : Int} (h : (Lit.int .u8 z).wf = true) : ((byteOfInt z).toNat : Int) = z := by
 have hx : 0 ≤ z ∧ z ≤ 255 := by simpa [Lit.wf, IntKind.min, IntKind.max, IntKind.signed, IntKind.bits] using h
 unfold byteOfInt
 rw [UInt8.toNat_ofNat']
 omega
theorem sumBulk_one {X : Type} : ∀ (l : List X), sumBulk (fun _ => 1) l = l.length
 | [] => rfl
 | _ :: r => by have := sumBulk_one r; simp only [sumBulk, List.map_cons, List.sum_cons, List.length_cons] at this ⊢; omega
theorem flat_one {X : Type} (f : X → T) : ∀ (l : List X), l.flatMap (fun a => [f a]) = l.map f
 | [] => rfl
 | _ :: r => by simp [flat_one f r]
theorem opens_bytes {P : Program} {t e : TypeId} (ht : P.underlying t = some (.slice e)) (hs : P.cellsOf t = 1) (he : P.underlying e = some (.int .u8)) (hs' : P.cellsOf e = 1) :
    Opens P t 1 (fun l : List UInt8 => [.sl 1 (l.map fun b => .v (.int .u8 b.toNat))]) (fun l => l.length + 1) (fun l => l.length ≤ maxLen) :=
 (opens_slice ht hs (by decide) (opens_int he hs')).turn (fun l => l.map byteOfInt) (fun l hl => ⟨by
     rw [flat_one, List.map_map]
     congr 2
     refine List.map_congr_left fun z hz => ?_
     simp only [Function.comp]
     rw [byteOfInt_back (hl.1 z hz)], by simp [sumBulk_one], by simpa using hl.2⟩)
theorem Opens.agg {P : Program} {t : TypeId} {fs : Array Field} {X : Type} {k : Nat} {cells : X → List T} {bulk : X → Nat} {ok : X → Prop} (h : Opens P t k cells bulk ok) (ht : P.underlying t = some (.struct fs))
    {H : Type} {enc : TypeId × Value → H} {w : World} {base b0 : Nat} {r : Reach} {spare : Nat → Bool} {held : Bool} {v : Value} {d : DataW H} {p : List MemPlace} (hv : Value.okWide P w r b0 t v) (e : DataW.Trod enc P w base spare held t v d p) :
    ∃ a, ok a ∧ VRep w [] (.agg (cells a)) v ∧ bulk a ≤ Rows.uptoBulk d := by
 obtain ⟨cs, rfl, hsz⟩ := okWide_struct ht hv
 obtain ⟨fuel, hf⟩ := e
 obtain ⟨a, h1, h2, h3, h4⟩ := h.one hf
 simp only [Value.cells] at h2 h3
 exact ⟨a, h1, by
  have := VRep.agg h2.len h2.at_ h2.one
  simpa using this, h4⟩
section
variable {cx : Cx} {env : Env} {S : St} {o : Oper} {x : Operand} {ops : Array Oper} {l : List Oper} {K : Env → St → Prop} {d : Nat} {t : T}
abbrev zv (n : Nat) : T := .v (.int .i64 (n : Int))
abbrev pv (b : Nat) : T := .v (.pointer (some ⟨b, 0, none⟩))
abbrev i3 (b : Nat) (x : Int) : Ent := .box b 3 [.v (.int .i64 x)]
def bA (n m : Nat) : Array Bool := ((List.range n).map fun i => m.testBit i).toArray
theorem odt {p : Prop} [Decidable p] (h : decide p = true) : p := of_decide_eq_true h
theorem odf {p : Prop} [Decidable p] (h : decide p = false) : ¬p := of_decide_eq_false h
theorem nB {a b : Nat} (h : Nat.ble a b = true := by rfl) : a ≤ b := Nat.le_of_ble_eq_true h
theorem su {env' env : Env} {k : Nat} {c : Bool} {t t' : T} (h : Sub env' env) (hk : get k env = some (c, t') := by rfl) (ht : t = t' := by rfl) : Sub ((k, c, t) :: env') env := Sub.cons hk ht h
theorem rs {id : Nat} {y : Code} {Q : Exit → Env → St → Prop} (h : AWL cx l.toArray l (AW cx y Q) env S) : AW cx (.seq (.region id l.toArray false) y) Q env S := AW.rseq h
theorem Q1 (hy : Yv cx o env S true t) (h : AWQ cx ops l K ((d, true, t) :: env) S) (hg : o.guard = none := by rfl) (hd : o.dst = some d := by rfl) (hN : d < cx.N := by exact B rfl) : AWQ cx ops (o :: l) K env S := AWQ.y hg hd hN hy h
theorem yl {ty tz : TypeId} {n p b : Nat} {cs : List T} (ha : aggSize cx.P ty = some (false, n)) (i : Nat) (h : AWL cx ops l K ((d, true, t) :: env) S) (ho : o.op = .load ty x := by rfl) (hx : ev env x = some (true, (.v (.pointer (some ⟨b, p, none⟩)))) := by rfl) (hp : plainConst x = true := by rfl) (hi : S[i]? = some (.box b tz cs) := by rfl) (hr : cs[p]? = some t := by rfl) (hg : o.guard = none := by rfl) (hd : o.dst = some d := by rfl) (hN : d < cx.N := by exact B rfl) : AWL cx ops (o :: l) K env S := Y1 (Yv.loadBox ho ha hi (E hx hp) hr) h hg hd hN
theorem ql {ty tz : TypeId} {n p b : Nat} {cs : List T} (ha : aggSize cx.P ty = some (false, n)) (i : Nat) (h : AWQ cx ops l K ((d, true, t) :: env) S) (ho : o.op = .load ty x := by rfl) (hx : ev env x = some (true, (.v (.pointer (some ⟨b, p, none⟩)))) := by rfl) (hp : plainConst x = true := by rfl) (hi : S[i]? = some (.box b tz cs) := by rfl) (hr : cs[p]? = some t := by rfl) (hg : o.guard = none := by rfl) (hd : o.dst = some d := by rfl) (hN : d < cx.N := by exact B rfl) : AWQ cx ops (o :: l) K env S := Q1 (Yv.loadBox ho ha hi (E hx hp) hr) h hg hd hN
theorem gT {j dj : Nat} {c b : Bool} (hy : Yv cx o env S (c && b) t) (h : AWL cx ops l K ((d, (c && b), t) :: env) S) (hg : o.guard = some (j, true) := by rfl) (hj : (ops[j]?).bind (·.dst) = some dj := by rfl) (hk : get dj env = some (c, .v (.bool b)) := by rfl) (hd : o.dst = some d := by rfl) (hN : d < cx.N := by exact B rfl) : AWL cx ops (o :: l) K env S := AWL.ygT hg hj hk hd hN hy h
theorem gF {j dj : Nat} {c b : Bool} (hy : Yv cx o env S (c && !b) t) (h : AWL cx ops l K ((d, (c && !b), t) :: env) S) (hg : o.guard = some (j, false) := by rfl) (hj : (ops[j]?).bind (·.dst) = some dj := by rfl) (hk : get dj env = some (c, .v (.bool b)) := by rfl) (hd : o.dst = some d := by rfl) (hN : d < cx.N := by exact B rfl) : AWL cx ops (o :: l) K env S := AWL.ygF hg hj hk hd hN hy h
theorem kT {j dj : Nat} {c b : Bool} (hy : Yv cx o env S (c && b) t) (h : AWQ cx ops l K ((d, (c && b), t) :: env) S) (hg : o.guard = some (j, true) := by rfl) (hj : (ops[j]?).bind (·.dst) = some dj := by rfl) (hk : get dj env = some (c, .v (.bool b)) := by rfl) (hd : o.dst = some d := by rfl) (hN : d < cx.N := by exact B rfl) : AWQ cx ops (o :: l) K env S := AWQ.ygT hg hj hk hd hN hy h
theorem kF {j dj : Nat} {c b : Bool} (hy : Yv cx o env S (c && !b) t) (h : AWQ cx ops l K ((d, (c && !b), t) :: env) S) (hg : o.guard = some (j, false) := by rfl) (hj : (ops[j]?).bind (·.dst) = some dj := by rfl) (hk : get dj env = some (c, .v (.bool b)) := by rfl) (hd : o.dst = some d := by rfl) (hN : d < cx.N := by exact B rfl) : AWQ cx ops (o :: l) K env S := AWQ.ygF hg hj hk hd hN hy h
theorem T1 {i fuel : Nat} {listed : Array Bool} (hi : ops[i]? = some o) (hy : ∀ a w, Sim cx env S a w → ∃ u, VRep w (cx.X ++ M S) t u ∧ ∀ w', (execOp a.eval o).run cx.P w' = .ok (.value u) w') (h : AWP cx ops fuel (listed.setIfInBounds i true) K ((d, true, t) :: env) S) (hs : Region.noSelect ops = true := by kernel_rfl) (hf : Region.free .any ops listed i = true := by kernel_rfl) (hr : (Region.ready .any ops listed).contains i = true := by kernel_rfl) (hg : o.guard = none := by rfl) (hd : o.dst = some d := by rfl) (hN : d < cx.N := by exact B rfl) : AWP cx ops (fuel + 1) listed K env S := AWP.take hi hs hf hr hg hd hN hy h
theorem p1 {fuel : Nat} {listed : Array Bool} (i : Nat) (h : AWL cx ops [o] (AWP cx ops fuel (listed.setIfInBounds i true) K) env S) (hi : ops[i]? = some o := by rfl) (hr : Region.ready .any ops listed = [i] := by kernel_rfl) : AWP cx ops (fuel + 1) listed K env S := AWP.one hr hi h
end
end Go.Proofs.YtlfklgganokgdaaGreat

namespace Go.Proofs.YtlfklgganokgdaaGreat
open Go
abbrev FO (t : TypeId) (i k : Nat) : Prop := fieldOff Tryz.prog t i = some k
abbrev AG (t : TypeId) (b : Bool) (n : Nat) : Prop := aggSize Tryz.prog t = some (b, n)
abbrev CE (f : FuncId) : Prop := calleeB Tryz.prog f = true
abbrev SS (t e : TypeId) (n : Nat) : Prop := sliceSz Tryz.prog t = some (e, n)
abbrev SO (t e : TypeId) : Prop := sliceOf Tryz.prog t = some e
theorem FOm {t : TypeId} {i k : Nat} (h : fieldOff Tryz.prog t i = some k := by kernel_rfl) : FO t i k := h
theorem AGm {t : TypeId} {b : Bool} {n : Nat} (h : aggSize Tryz.prog t = some (b, n) := by kernel_rfl) : AG t b n := h
theorem CEm {f : FuncId} (h : calleeB Tryz.prog f = true := by kernel_rfl) : CE f := h
theorem SSm {t e : TypeId} {n : Nat} (h : sliceSz Tryz.prog t = some (e, n) := by kernel_rfl) : SS t e n := h
theorem SOm {t e : TypeId} (h : sliceOf Tryz.prog t = some e := by kernel_rfl) : SO t e := h
theorem ag_101 : AG 101 false 1 := AGm
theorem ag_102 : AG 102 false 1 := AGm
theorem ag_104 : AG 104 true 7 := AGm
theorem ag_108 : AG 108 true 7 := AGm
theorem ag_131 : AG 131 true 8 := AGm
theorem ag_143 : AG 143 true 8 := AGm
theorem ag_157 : AG 157 false 1 := AGm
theorem ag_160 : AG 160 false 1 := AGm
theorem ag_2 : AG 2 false 1 := AGm
theorem ag_22 : AG 22 false 1 := AGm
theorem ag_23 : AG 23 false 1 := AGm
theorem ag_25 : AG 25 true 3 := AGm
theorem ag_28 : AG 28 true 2 := AGm
theorem ag_29 : AG 29 false 1 := AGm
theorem ag_3 : AG 3 false 1 := AGm
theorem ag_30 : AG 30 false 1 := AGm
theorem ag_33 : AG 33 false 1 := AGm
theorem ag_35 : AG 35 false 1 := AGm
theorem ag_4 : AG 4 false 1 := AGm
theorem ag_45 : AG 45 false 1 := AGm
theorem ag_5 : AG 5 false 1 := AGm
theorem ag_59 : AG 59 false 1 := AGm
theorem ag_60 : AG 60 false 1 := AGm
theorem ag_61 : AG 61 false 1 := AGm
theorem ag_62 : AG 62 false 1 := AGm
theorem ag_72 : AG 72 false 1 := AGm
theorem ag_80 : AG 80 false 1 := AGm
theorem ag_81 : AG 81 false 1 := AGm
theorem ag_84 : AG 84 false 1 := AGm
theorem ag_86 : AG 86 true 5 := AGm
theorem ag_87 : AG 87 false 1 := AGm
theorem ag_88 : AG 88 false 1 := AGm
theorem ag_90 : AG 90 true 11 := AGm
theorem ar_129 : arrOf Tryz.prog 129 = some (4096, 1) := by kernel_rfl
theorem ar_164 : arrOf Tryz.prog 164 = some (3, 1) := by kernel_rfl
theorem bo_4 : isBoolB Tryz.prog 4 = true := by kernel_rfl
theorem by_23 : isBytes Tryz.prog 23 = true := by kernel_rfl
theorem ce_10 : CE 10 := CEm
theorem ce_100 : CE 100 := CEm
theorem ce_101 : CE 101 := CEm
theorem ce_102 : CE 102 := CEm
theorem ce_103 : CE 103 := CEm
theorem ce_104 : CE 104 := CEm
theorem ce_11 : CE 11 := CEm
theorem ce_110 : CE 110 := CEm
theorem ce_111 : CE 111 := CEm
theorem ce_12 : CE 12 := CEm
theorem ce_13 : CE 13 := CEm
theorem ce_14 : CE 14 := CEm
theorem ce_17 : CE 17 := CEm
theorem ce_18 : CE 18 := CEm
theorem ce_19 : CE 19 := CEm
theorem ce_20 : CE 20 := CEm
theorem ce_21 : CE 21 := CEm
theorem ce_22 : CE 22 := CEm
theorem ce_23 : CE 23 := CEm
theorem ce_26 : CE 26 := CEm
theorem ce_27 : CE 27 := CEm
theorem ce_28 : CE 28 := CEm
theorem ce_29 : CE 29 := CEm
theorem ce_30 : CE 30 := CEm
theorem ce_31 : CE 31 := CEm
theorem ce_32 : CE 32 := CEm
theorem ce_33 : CE 33 := CEm
theorem ce_34 : CE 34 := CEm
theorem ce_35 : CE 35 := CEm
theorem ce_36 : CE 36 := CEm
theorem ce_37 : CE 37 := CEm
theorem ce_38 : CE 38 := CEm
theorem ce_39 : CE 39 := CEm
theorem ce_40 : CE 40 := CEm
theorem ce_43 : CE 43 := CEm
theorem ce_44 : CE 44 := CEm
theorem ce_45 : CE 45 := CEm
theorem ce_46 : CE 46 := CEm
theorem ce_47 : CE 47 := CEm
theorem ce_48 : CE 48 := CEm
theorem ce_5 : CE 5 := CEm
theorem ce_51 : CE 51 := CEm
theorem ce_52 : CE 52 := CEm
theorem ce_53 : CE 53 := CEm
theorem ce_54 : CE 54 := CEm
theorem ce_55 : CE 55 := CEm
theorem ce_56 : CE 56 := CEm
theorem ce_57 : CE 57 := CEm
theorem ce_6 : CE 6 := CEm
theorem ce_61 : CE 61 := CEm
theorem ce_62 : CE 62 := CEm
theorem ce_63 : CE 63 := CEm
theorem ce_64 : CE 64 := CEm
theorem ce_65 : CE 65 := CEm
theorem ce_66 : CE 66 := CEm
theorem ce_67 : CE 67 := CEm
theorem ce_68 : CE 68 := CEm
theorem ce_69 : CE 69 := CEm
theorem ce_7 : CE 7 := CEm
theorem ce_70 : CE 70 := CEm
theorem ce_71 : CE 71 := CEm
theorem ce_72 : CE 72 := CEm
theorem ce_74 : CE 74 := CEm
theorem ce_76 : CE 76 := CEm
theorem ce_77 : CE 77 := CEm
theorem ce_78 : CE 78 := CEm
theorem ce_79 : CE 79 := CEm
theorem ce_8 : CE 8 := CEm
theorem ce_80 : CE 80 := CEm
theorem ce_82 : CE 82 := CEm
theorem ce_83 : CE 83 := CEm
theorem ce_84 : CE 84 := CEm
theorem ce_85 : CE 85 := CEm
theorem ce_86 : CE 86 := CEm
theorem ce_87 : CE 87 := CEm
theorem ce_88 : CE 88 := CEm
theorem ce_89 : CE 89 := CEm
theorem ce_9 : CE 9 := CEm
theorem ce_90 : CE 90 := CEm
theorem ce_91 : CE 91 := CEm
theorem ce_92 : CE 92 := CEm
theorem ce_93 : CE 93 := CEm
theorem ce_94 : CE 94 := CEm
theorem ce_95 : CE 95 := CEm
theorem ce_96 : CE 96 := CEm
theorem ce_98 : CE 98 := CEm
theorem ce_99 : CE 99 := CEm
theorem el_102 : elemOf Tryz.prog 102 = some (4, 1, 1, [.bool false]) := by kernel_rfl
theorem el_157 : elemOf Tryz.prog 157 = some (160, 1, 24, [.slice none 0 0]) := by kernel_rfl
theorem el_160 : elemOf Tryz.prog 160 = some (29, 1, 8, [.int .u64 0]) := by kernel_rfl
theorem el_22 : elemOf Tryz.prog 22 = some (86, 5, 64, [.string ⟨#[]⟩, .int .i64 0, .int .i64 0, .int .i64 0, .slice none 0 0]) := by kernel_rfl
theorem el_23 : elemOf Tryz.prog 23 = some (5, 1, 1, [.int .u8 0]) := by kernel_rfl
theorem el_30 : elemOf Tryz.prog 30 = some (29, 1, 8, [.int .u64 0]) := by kernel_rfl
theorem el_59 : elemOf Tryz.prog 59 = some (87, 1, 8, [.map none]) := by kernel_rfl
theorem el_62 : elemOf Tryz.prog 62 = some (108, 7, 120, [.int .i64 0, .int .i64 0, .slice none 0 0, .slice none 0 0, .slice none 0 0, .slice none 0 0, .int .i64 0]) := by kernel_rfl
theorem el_81 : elemOf Tryz.prog 81 = some (104, 7, 120, [.int .i64 0, .int .i64 0, .slice none 0 0, .slice none 0 0, .slice none 0 0, .slice none 0 0, .int .i64 0]) := by kernel_rfl
theorem el_84 : elemOf Tryz.prog 84 = some (90, 11, 104, [.int .i64 0, .int .i64 0, .int .i64 0, .int .i64 0, .int .i64 0, .int .i64 0, .int .i64 0, .int .i64 0, .int .i64 0, .int .i64 0, .slice none 0 0]) := by kernel_rfl
theorem el_88 : elemOf Tryz.prog 88 = some (3, 1, 8, [.int .i64 0]) := by kernel_rfl
theorem fo_104_0 : FO 104 0 0 := FOm
theorem fo_104_1 : FO 104 1 1 := FOm
theorem fo_104_2 : FO 104 2 2 := FOm
theorem fo_104_3 : FO 104 3 3 := FOm
theorem fo_104_4 : FO 104 4 4 := FOm
theorem fo_104_5 : FO 104 5 5 := FOm
theorem fo_104_6 : FO 104 6 6 := FOm
theorem fo_108_0 : FO 108 0 0 := FOm
theorem fo_108_1 : FO 108 1 1 := FOm
theorem fo_108_2 : FO 108 2 2 := FOm
theorem fo_108_3 : FO 108 3 3 := FOm
theorem fo_108_4 : FO 108 4 4 := FOm
theorem fo_108_5 : FO 108 5 5 := FOm
theorem fo_108_6 : FO 108 6 6 := FOm
theorem fo_115_3 : FO 115 3 3 := FOm
theorem fo_123_0 : FO 123 0 0 := FOm
theorem fo_123_1 : FO 123 1 3 := FOm
theorem fo_123_2 : FO 123 2 8 := FOm
theorem fo_131_0 : FO 131 0 0 := FOm
theorem fo_131_1 : FO 131 1 1 := FOm
theorem fo_131_2 : FO 131 2 2 := FOm
theorem fo_131_3 : FO 131 3 3 := FOm
theorem fo_131_4 : FO 131 4 4 := FOm
theorem fo_131_5 : FO 131 5 5 := FOm
theorem fo_131_6 : FO 131 6 6 := FOm
theorem fo_131_7 : FO 131 7 7 := FOm
theorem fo_143_0 : FO 143 0 0 := FOm
theorem fo_143_1 : FO 143 1 1 := FOm
theorem fo_143_2 : FO 143 2 2 := FOm
theorem fo_143_3 : FO 143 3 3 := FOm
theorem fo_143_4 : FO 143 4 4 := FOm
theorem fo_143_5 : FO 143 5 5 := FOm
theorem fo_143_6 : FO 143 6 6 := FOm
theorem fo_143_7 : FO 143 7 7 := FOm
theorem fo_153_0 : FO 153 0 0 := FOm
theorem fo_159_0 : FO 159 0 0 := FOm
theorem fo_159_1 : FO 159 1 5 := FOm
theorem fo_159_2 : FO 159 2 6 := FOm
theorem fo_159_3 : FO 159 3 7 := FOm
theorem fo_25_0 : FO 25 0 0 := FOm
theorem fo_25_1 : FO 25 1 1 := FOm
theorem fo_25_2 : FO 25 2 2 := FOm
theorem fo_32_0 : FO 32 0 0 := FOm
theorem fo_32_1 : FO 32 1 1 := FOm
theorem fo_32_2 : FO 32 2 2 := FOm
theorem fo_32_3 : FO 32 3 3 := FOm
theorem fo_47_0 : FO 47 0 0 := FOm
theorem fo_47_1 : FO 47 1 1 := FOm
theorem fo_47_2 : FO 47 2 2 := FOm
theorem fo_64_0 : FO 64 0 0 := FOm
theorem fo_64_1 : FO 64 1 3 := FOm
theorem fo_64_10 : FO 64 10 12 := FOm
theorem fo_64_11 : FO 64 11 13 := FOm
theorem fo_64_12 : FO 64 12 14 := FOm
theorem fo_64_2 : FO 64 2 4 := FOm
theorem fo_64_3 : FO 64 3 5 := FOm
theorem fo_64_4 : FO 64 4 6 := FOm
theorem fo_64_5 : FO 64 5 7 := FOm
theorem fo_64_6 : FO 64 6 8 := FOm
theorem fo_64_7 : FO 64 7 9 := FOm
theorem fo_64_8 : FO 64 8 10 := FOm
theorem fo_64_9 : FO 64 9 11 := FOm
theorem fo_83_0 : FO 83 0 0 := FOm
theorem fo_83_1 : FO 83 1 3 := FOm
theorem fo_83_10 : FO 83 10 12 := FOm
theorem fo_83_11 : FO 83 11 13 := FOm
theorem fo_83_2 : FO 83 2 4 := FOm
theorem fo_83_3 : FO 83 3 5 := FOm
theorem fo_83_4 : FO 83 4 6 := FOm
theorem fo_83_5 : FO 83 5 7 := FOm
theorem fo_83_6 : FO 83 6 8 := FOm
theorem fo_83_7 : FO 83 7 9 := FOm
theorem fo_83_8 : FO 83 8 10 := FOm
theorem fo_83_9 : FO 83 9 11 := FOm
theorem fo_86_1 : FO 86 1 1 := FOm
theorem fo_86_2 : FO 86 2 2 := FOm
theorem fo_86_3 : FO 86 3 3 := FOm
theorem fo_86_4 : FO 86 4 4 := FOm
theorem fo_90_0 : FO 90 0 0 := FOm
theorem fo_90_1 : FO 90 1 1 := FOm
theorem fo_90_10 : FO 90 10 10 := FOm
theorem fo_90_2 : FO 90 2 2 := FOm
theorem fo_90_3 : FO 90 3 3 := FOm
theorem fo_90_4 : FO 90 4 4 := FOm
theorem fo_90_5 : FO 90 5 5 := FOm
theorem fo_90_6 : FO 90 6 6 := FOm
theorem fo_90_7 : FO 90 7 7 := FOm
theorem fo_90_8 : FO 90 8 8 := FOm
theorem fo_90_9 : FO 90 9 9 := FOm
theorem kd_2 : kindOf Tryz.prog 2 = some .i64 := by kernel_rfl
theorem kd_29 : kindOf Tryz.prog 29 = some .u64 := by kernel_rfl
theorem kd_3 : kindOf Tryz.prog 3 = some .i64 := by kernel_rfl
theorem kd_5 : kindOf Tryz.prog 5 = some .u8 := by kernel_rfl
theorem mp_61 : mapOf Tryz.prog 61 = some ((.int .u64), 29, 151, .pointer none) := by kernel_rfl
theorem mp_80 : mapOf Tryz.prog 80 = some ((.int .u64), 29, 128, .pointer none) := by kernel_rfl
theorem mp_87 : mapOf Tryz.prog 87 = some ((.int .i64), 3, 3, .int .i64 0) := by kernel_rfl
theorem pn_128 : ptrOf Tryz.prog 128 = true := by kernel_rfl
theorem pn_151 : ptrOf Tryz.prog 151 = true := by kernel_rfl
theorem pn_33 : ptrOf Tryz.prog 33 = true := by kernel_rfl
theorem pn_35 : ptrOf Tryz.prog 35 = true := by kernel_rfl
theorem pn_42 : ptrOf Tryz.prog 42 = true := by kernel_rfl
theorem sh_104 : structShape Tryz.prog 104 = some ([.int .i64 0, .int .i64 0, .slice none 0 0, .slice none 0 0, .slice none 0 0, .slice none 0 0, .int .i64 0], [(0, 1), (1, 1), (2, 1), (3, 1), (4, 1), (5, 1), (6, 1)]) := by kernel_rfl
theorem sh_108 : structShape Tryz.prog 108 = some ([.int .i64 0, .int .i64 0, .slice none 0 0, .slice none 0 0, .slice none 0 0, .slice none 0 0, .int .i64 0], [(0, 1), (1, 1), (2, 1), (3, 1), (4, 1), (5, 1), (6, 1)]) := by kernel_rfl
theorem sh_123 : structShape Tryz.prog 123 = some ([.slice none 0 0, .slice none 0 0, .int .i64 0, .string ⟨#[]⟩, .int .i64 0, .int .i64 0, .int .i64 0, .slice none 0 0, .map none], [(0, 3), (3, 5), (8, 1)]) := by kernel_rfl
theorem sh_131 : structShape Tryz.prog 131 = some ([.bool false, .bool false, .bool false, .bool false, .bool false, .bool false, .bool false, .bool false], [(0, 1), (1, 1), (2, 1), (3, 1), (4, 1), (5, 1), (6, 1), (7, 1)]) := by kernel_rfl
theorem sh_143 : structShape Tryz.prog 143 = some ([.bool false, .bool false, .bool false, .bool false, .bool false, .bool false, .bool false, .bool false], [(0, 1), (1, 1), (2, 1), (3, 1), (4, 1), (5, 1), (6, 1), (7, 1)]) := by kernel_rfl
theorem sh_159 : structShape Tryz.prog 159 = some ([.string ⟨#[]⟩, .int .i64 0, .int .i64 0, .int .i64 0, .slice none 0 0, .map none, .slice none 0 0, .slice none 0 0], [(0, 5), (5, 1), (6, 1), (7, 1)]) := by kernel_rfl
theorem sh_25 : structShape Tryz.prog 25 = some ([.slice none 0 0, .slice none 0 0, .int .i64 0], [(0, 1), (1, 1), (2, 1)]) := by kernel_rfl
theorem sh_28 : structShape Tryz.prog 28 = some ([.string ⟨#[]⟩, .slice none 0 0], [(0, 1), (1, 1)]) := by kernel_rfl
theorem sh_47 : structShape Tryz.prog 47 = some ([.pointer none, .pointer none, .pointer none], [(0, 1), (1, 1), (2, 1)]) := by kernel_rfl
theorem sh_64 : structShape Tryz.prog 64 = some ([.slice none 0 0, .slice none 0 0, .int .i64 0, .slice none 0 0, .int .u64 0, .bool false, .pointer none, .map none, .slice none 0 0, .bool false, .int .i64 0, .int .u64 0, .int .i64 0, .int .i64 0, .bool false], [(0, 3), (3, 1), (4, 1), (5, 1), (6, 1), (7, 1), (8, 1), (9, 1), (10, 1), (11, 1), (12, 1), (13, 1), (14, 1)]) := by kernel_rfl
theorem sh_83 : structShape Tryz.prog 83 = some ([.slice none 0 0, .slice none 0 0, .int .i64 0, .slice none 0 0, .int .u64 0, .bool false, .pointer none, .map none, .slice none 0 0, .bool false, .int .i64 0, .int .u64 0, .int .i64 0, .int .i64 0], [(0, 3), (3, 1), (4, 1), (5, 1), (6, 1), (7, 1), (8, 1), (9, 1), (10, 1), (11, 1), (12, 1), (13, 1)]) := by kernel_rfl
theorem sh_86 : structShape Tryz.prog 86 = some ([.string ⟨#[]⟩, .int .i64 0, .int .i64 0, .int .i64 0, .slice none 0 0], [(0, 1), (1, 1), (2, 1), (3, 1), (4, 1)]) := by kernel_rfl
theorem sh_90 : structShape Tryz.prog 90 = some ([.int .i64 0, .int .i64 0, .int .i64 0, .int .i64 0, .int .i64 0, .int .i64 0, .int .i64 0, .int .i64 0, .int .i64 0, .int .i64 0, .slice none 0 0], [(0, 1), (1, 1), (2, 1), (3, 1), (4, 1), (5, 1), (6, 1), (7, 1), (8, 1), (9, 1), (10, 1)]) := by kernel_rfl
theorem so_102 : SO 102 4 := SOm
theorem so_160 : SO 160 29 := SOm
theorem so_22 : SO 22 86 := SOm
theorem so_23 : SO 23 5 := SOm
theorem so_30 : SO 30 29 := SOm
theorem so_59 : SO 59 87 := SOm
theorem so_62 : SO 62 108 := SOm
theorem so_81 : SO 81 104 := SOm
theorem so_84 : SO 84 90 := SOm
theorem so_88 : SO 88 3 := SOm
theorem ss_102 : SS 102 4 1 := SSm
theorem ss_157 : SS 157 160 1 := SSm
theorem ss_160 : SS 160 29 1 := SSm
theorem ss_22 : SS 22 86 5 := SSm
theorem ss_23 : SS 23 5 1 := SSm
theorem ss_30 : SS 30 29 1 := SSm
theorem ss_59 : SS 59 87 1 := SSm
theorem ss_62 : SS 62 108 7 := SSm
theorem ss_81 : SS 81 104 7 := SSm
theorem ss_84 : SS 84 90 11 := SSm
theorem ss_88 : SS 88 3 1 := SSm
theorem st_9 : isStr Tryz.prog 9 = true := by kernel_rfl
theorem zc_104 : zeroCellsOf Tryz.prog 104 = some [.int .i64 0, .int .i64 0, .slice none 0 0, .slice none 0 0, .slice none 0 0, .slice none 0 0, .int .i64 0] := by kernel_rfl
theorem zc_108 : zeroCellsOf Tryz.prog 108 = some [.int .i64 0, .int .i64 0, .slice none 0 0, .slice none 0 0, .slice none 0 0, .slice none 0 0, .int .i64 0] := by kernel_rfl
theorem zc_131 : zeroCellsOf Tryz.prog 131 = some [.bool false, .bool false, .bool false, .bool false, .bool false, .bool false, .bool false, .bool false] := by kernel_rfl
theorem zc_143 : zeroCellsOf Tryz.prog 143 = some [.bool false, .bool false, .bool false, .bool false, .bool false, .bool false, .bool false, .bool false] := by kernel_rfl
theorem zc_160 : zeroCellsOf Tryz.prog 160 = some [.slice none 0 0] := by kernel_rfl
theorem zc_164 : zeroCellsOf Tryz.prog 164 = some [.int .u64 0, .int .u64 0, .int .u64 0] := by kernel_rfl
theorem zc_25 : zeroCellsOf Tryz.prog 25 = some [.slice none 0 0, .slice none 0 0, .int .i64 0] := by kernel_rfl
theorem zc_4 : zeroCellsOf Tryz.prog 4 = some [.bool false] := by kernel_rfl
theorem zc_86 : zeroCellsOf Tryz.prog 86 = some [.string ⟨#[]⟩, .int .i64 0, .int .i64 0, .int .i64 0, .slice none 0 0] := by kernel_rfl
theorem zc_90 : zeroCellsOf Tryz.prog 90 = some [.int .i64 0, .int .i64 0, .int .i64 0, .int .i64 0, .int .i64 0, .int .i64 0, .int .i64 0, .int .i64 0, .int .i64 0, .int .i64 0, .slice none 0 0] := by kernel_rfl
abbrev sg (b : Nat) : Option Addr := some ⟨b, 0, none⟩
section
variable {cx : Cx} {env : Env} {S : St} {o : Oper} {g : Bool} {x y z : Operand} {ops : Array Oper} {l : List Oper} {K : Env → St → Prop} {Q : Exit → Env → St → Prop} {d : Nat}
theorem rZ {P : Prop} (h : P := by exact rfl) : P := h
theorem evZ {P : Prop} (h : P := by first | exact E rfl rfl | exact Eg rfl rfl id) : P := h
theorem lbZ {t ty : TypeId} {n p i b : Nat} {cs : List T} {r : T} (ho : o.op = .load t x) (hx : Ev env g x (.v (.pointer (some ⟨b, p, none⟩)))) (h : aggSize cx.P t = some (false, n)) (hi : S[i]? = some (.box b ty cs)) (hr : cs[p]? = some r) : Yv cx o env S g r := Yv.loadBox ho h hi hx hr
theorem lbA {t ty : TypeId} {n p i b : Nat} {cs l' : List T} (ho : o.op = .load t x) (hx : Ev env g x (.v (.pointer (some ⟨b, p, none⟩)))) (h : aggSize cx.P t = some (true, n)) (hi : S[i]? = some (.box b ty cs)) (hr : (cs.drop p).take n = l') (hl : l'.length = n) : Yv cx o env S g (.agg l') := Yv.loadBoxA ho h hi hx hr hl
theorem sbx {t ty : TypeId} {n p i b : Nat} {f : Bool} {cs : List T} {r : T} (hg : o.guard = none) (hd : o.dst = none) (ho : o.op = .store t x y) (hx : Ev env true x (.v (.pointer (some ⟨b, p, none⟩)))) (h : aggSize cx.P t = some (f, n)) (hi : S[i]? = some (.box b ty cs)) (hy : Ev env true y r) (hc : r.cellish = true) (hn : (cellsT r).length = n) (hp : p + n ≤ cs.length)
    (hr : AWL cx ops l K env (S.set i (.box b ty (cs.take p ++ cellsT r ++ cs.drop (p + n))))) : AWL cx ops (o :: l) K env S := AWL.storeBox hg hd ho h hi hx hy hc hn hp hr
theorem sez {t e : TypeId} {p i n c size : Nat} {A : Option Addr} {cs : List T} {r : T} (hg : o.guard = none) (hd : o.dst = none) (ho : o.op = .store t x y) (hx : Ev env true x (.ep (.slice A n c) p)) (h : aggSize cx.P t = some (false, 1)) (hi : S[i]? = some (.row A n c e size cs)) (hy : Ev env true y r) (hc : r.one = true) (hc' : cellsT r = [r]) (hp : p < cs.length)
    (hr : AWL cx ops l K env (S.set i (.row A n c e size (cs.set p r)))) : AWL cx ops (o :: l) K env S := AWL.storeEp1 hg hd ho h hi hx hy hc hc' hp hr
theorem rbx {A : Option Addr} {n c k : Nat} {e : TypeId} {cs : List T} (i : Nat) (h : S[i]? = some (.row A n c e k cs)) : S[i]? = some (.row A n c e k cs) := h
theorem lep {t e : TypeId} {n m p i c size : Nat} {A : Option Addr} {cs : List T} {r : T} (ho : o.op = .load t x) (hx : Ev env g x (.ep (.slice A n c) p)) (h : aggSize cx.P t = some (false, m)) (hi : S[i]? = some (.row A n c e size cs)) (hr : g = true → cs[p]? = some r) : Yv cx o env S g r := Yv.loadEp ho h hi hx hr
theorem irw {t e e' : TypeId} {k j i n c : Nat} {kd : IntKind} {p : Int} {A : Option Addr} {cs : List T} (ho : o.op = .indexAddr t x y) (hx : Ev env g x (.v (.slice A n c))) (hy : Ev env g y (.v (.int kd p))) (h : sliceSz cx.P t = some (e, k)) (hi : S[i]? = some (.row A n c e' k cs)) (hj : g = true → p = (j : Int) ∧ j < n) : Yv cx o env S g (.ep (.slice A n c) (j * k)) := Yv.indexRow ho h hi hy hx hj
theorem irt {t e e' : TypeId} {k i n c : Nat} {kd : IntKind} {p : Int} {A : Option Addr} {cs : List T} (ho : o.op = .indexAddr t x y) (hx : Ev env g x (.v (.slice A n c))) (hy : Ev env g y (.v (.int kd p))) (h : sliceSz cx.P t = some (e, k)) (hi : S[i]? = some (.row A n c e' k cs)) (hj : g = true → 0 ≤ p ∧ p.toNat < n) : Yv cx o env S g (.ep (.slice A n c) (p.toNat * k)) := Yv.indexRow ho h hi hy hx fun q => ⟨(Int.toNat_of_nonneg (hj q).1).symm, (hj q).2⟩
theorem ibx {b : Nat} {ty : TypeId} {cs : List T} (i : Nat) (h : S[i]? = some (.box b ty cs)) : S[i]? = some (.box b ty cs) := h
end
theorem ibZ {P : Prop} (h : P := by first | exact ibx 0 rfl | exact ibx 1 rfl | exact ibx 2 rfl | exact ibx 3 rfl | exact ibx 4 rfl | exact ibx 5 rfl | exact ibx 6 rfl | exact ibx 7 rfl | exact ibx 8 rfl | exact ibx 9 rfl | exact ibx 10 rfl | exact ibx 11 rfl | exact ibx 12 rfl | exact ibx 13 rfl | exact ibx 14 rfl | exact ibx 15 rfl | exact ibx 16 rfl) : P := h
theorem rbZ {P : Prop} (h : P := by first | exact rbx 0 rfl | exact rbx 1 rfl | exact rbx 2 rfl | exact rbx 3 rfl | exact rbx 4 rfl | exact rbx 5 rfl | exact rbx 6 rfl | exact rbx 7 rfl | exact rbx 8 rfl | exact rbx 9 rfl | exact rbx 10 rfl | exact rbx 11 rfl | exact rbx 12 rfl | exact rbx 13 rfl | exact rbx 14 rfl | exact rbx 15 rfl | exact rbx 16 rfl) : P := h
theorem fF {P : Prop} (h : P := by with_reducible first | exact fo_104_0 | exact fo_104_1 | exact fo_104_2 | exact fo_104_3 | exact fo_104_4 | exact fo_104_5 | exact fo_104_6 | exact fo_108_0 | exact fo_108_1 | exact fo_108_2 | exact fo_108_3 | exact fo_108_4 | exact fo_108_5 | exact fo_108_6 | exact fo_115_3 | exact fo_123_0 | exact fo_123_1 | exact fo_123_2 | exact fo_131_0 | exact fo_131_1 | exact fo_131_2 | exact fo_131_3 | exact fo_131_4 | exact fo_131_5 | exact fo_131_6 | exact fo_131_7 | exact fo_143_0 | exact fo_143_1 | exact fo_143_2 | exact fo_143_3 | exact fo_143_4 | exact fo_143_5 | exact fo_143_6 | exact fo_143_7 | exact fo_153_0 | exact fo_159_0 | exact fo_159_1 | exact fo_159_2 | exact fo_159_3 | exact fo_25_0 | exact fo_25_1 | exact fo_25_2 | exact fo_32_0 | exact fo_32_1 | exact fo_32_2 | exact fo_32_3 | exact fo_47_0 | exact fo_47_1 | exact fo_47_2 | exact fo_64_0 | exact fo_64_1 | exact fo_64_10 | exact fo_64_11 | exact fo_64_12 | exact fo_64_2 | exact fo_64_3 | exact fo_64_4 | exact fo_64_5 | exact fo_64_6 | exact fo_64_7 | exact fo_64_8 | exact fo_64_9 | exact fo_83_0 | exact fo_83_1 | exact fo_83_10 | exact fo_83_11 | exact fo_83_2 | exact fo_83_3 | exact fo_83_4 | exact fo_83_5 | exact fo_83_6 | exact fo_83_7 | exact fo_83_8 | exact fo_83_9 | exact fo_86_1 | exact fo_86_2 | exact fo_86_3 | exact fo_86_4 | exact fo_90_0 | exact fo_90_1 | exact fo_90_10 | exact fo_90_2 | exact fo_90_3 | exact fo_90_4 | exact fo_90_5 | exact fo_90_6 | exact fo_90_7 | exact fo_90_8 | exact fo_90_9) : P := h
theorem fA {P : Prop} (h : P := by with_reducible first | exact ag_101 | exact ag_102 | exact ag_104 | exact ag_108 | exact ag_131 | exact ag_143 | exact ag_157 | exact ag_160 | exact ag_2 | exact ag_22 | exact ag_23 | exact ag_25 | exact ag_28 | exact ag_29 | exact ag_3 | exact ag_30 | exact ag_33 | exact ag_35 | exact ag_4 | exact ag_45 | exact ag_5 | exact ag_59 | exact ag_60 | exact ag_61 | exact ag_62 | exact ag_72 | exact ag_80 | exact ag_81 | exact ag_84 | exact ag_86 | exact ag_87 | exact ag_88 | exact ag_90) : P := h
theorem fK {P : Prop} (h : P := by with_reducible first | exact kd_2 | exact kd_29 | exact kd_3 | exact kd_5) : P := h
theorem fS {P : Prop} (h : P := by with_reducible first | exact so_102 | exact so_160 | exact so_22 | exact so_23 | exact so_30 | exact so_59 | exact so_62 | exact so_81 | exact so_84 | exact so_88) : P := h
theorem fX {P : Prop} (h : P := by with_reducible first | exact ss_102 | exact ss_157 | exact ss_160 | exact ss_22 | exact ss_23 | exact ss_30 | exact ss_59 | exact ss_62 | exact ss_81 | exact ss_84 | exact ss_88) : P := h
theorem fT {P : Prop} (h : P := by with_reducible first | exact st_9) : P := h
theorem fN {P : Prop} (h : P := by with_reducible first | exact pn_128 | exact pn_151 | exact pn_33 | exact pn_35 | exact pn_42) : P := h
theorem fH {P : Prop} (h : P := by with_reducible first | exact sh_104 | exact sh_108 | exact sh_123 | exact sh_131 | exact sh_143 | exact sh_159 | exact sh_25 | exact sh_28 | exact sh_47 | exact sh_64 | exact sh_83 | exact sh_86 | exact sh_90) : P := h
theorem fY {P : Prop} (h : P := by with_reducible first | exact by_23) : P := h
theorem fR {P : Prop} (h : P := by with_reducible first | exact ar_129 | exact ar_164) : P := h
theorem fZ {P : Prop} (h : P := by with_reducible first | exact zc_104 | exact zc_108 | exact zc_131 | exact zc_143 | exact zc_160 | exact zc_164 | exact zc_25 | exact zc_4 | exact zc_86 | exact zc_90) : P := h
theorem fC {P : Prop} (h : P := by with_reducible first | exact ce_10 | exact ce_100 | exact ce_101 | exact ce_102 | exact ce_103 | exact ce_104 | exact ce_11 | exact ce_110 | exact ce_111 | exact ce_12 | exact ce_13 | exact ce_14 | exact ce_17 | exact ce_18 | exact ce_19 | exact ce_20 | exact ce_21 | exact ce_22 | exact ce_23 | exact ce_26 | exact ce_27 | exact ce_28 | exact ce_29 | exact ce_30 | exact ce_31 | exact ce_32 | exact ce_33 | exact ce_34 | exact ce_35 | exact ce_36 | exact ce_37 | exact ce_38 | exact ce_39 | exact ce_40 | exact ce_43 | exact ce_44 | exact ce_45 | exact ce_46 | exact ce_47 | exact ce_48 | exact ce_5 | exact ce_51 | exact ce_52 | exact ce_53 | exact ce_54 | exact ce_55 | exact ce_56 | exact ce_57 | exact ce_6 | exact ce_61 | exact ce_62 | exact ce_63 | exact ce_64 | exact ce_65 | exact ce_66 | exact ce_67 | exact ce_68 | exact ce_69 | exact ce_7 | exact ce_70 | exact ce_71 | exact ce_72 | exact ce_74 | exact ce_76 | exact ce_77 | exact ce_78 | exact ce_79 | exact ce_8 | exact ce_80 | exact ce_82 | exact ce_83 | exact ce_84 | exact ce_85 | exact ce_86 | exact ce_87 | exact ce_88 | exact ce_89 | exact ce_9 | exact ce_90 | exact ce_91 | exact ce_92 | exact ce_93 | exact ce_94 | exact ce_95 | exact ce_96 | exact ce_98 | exact ce_99) : P := h
theorem ceZ {P : Prop} (h : P := by
 intro hg
 first | exact fr0 | exact fr1 | exact fr2 | exact fr3 | exact fr4 | exact fr5 | exact fr6 | exact fd0 | exact fd1 | exact fd2 | exact fd3 | exact fd4 | exact fd5 | exact fd6 | exact word_at (by first | omega | (simp only [Bool.or_eq_true, Bool.and_eq_true, Bool.or_eq_false_iff, Bool.and_eq_false_iff, Bool.not_eq_true', Bool.not_eq_false', decide_eq_true_eq, decide_eq_false_iff_not, Decidable.not_not] at hg; omega) | (dsimp only; omega)) | exact arg_at (by first | omega | (simp only [Bool.or_eq_true, Bool.and_eq_true, Bool.or_eq_false_iff, Bool.and_eq_false_iff, Bool.not_eq_true', Bool.not_eq_false', decide_eq_true_eq, decide_eq_false_iff_not, Decidable.not_not] at hg; omega) | (dsimp only; omega)) | exact bool_at (by first | omega | (simp only [Bool.or_eq_true, Bool.and_eq_true, Bool.or_eq_false_iff, Bool.and_eq_false_iff, Bool.not_eq_true', Bool.not_eq_false', decide_eq_true_eq, decide_eq_false_iff_not, Decidable.not_not] at hg; omega) | (dsimp only; omega)) | exact iargs_at (by first | omega | (simp only [Bool.or_eq_true, Bool.and_eq_true, Bool.or_eq_false_iff, Bool.and_eq_false_iff, Bool.not_eq_true', Bool.not_eq_false', decide_eq_true_eq, decide_eq_false_iff_not, Decidable.not_not] at hg; omega) | (dsimp only; omega)) | exact fcode_at (by first | omega | (simp only [Bool.or_eq_true, Bool.and_eq_true, Bool.or_eq_false_iff, Bool.and_eq_false_iff, Bool.not_eq_true', Bool.not_eq_false', decide_eq_true_eq, decide_eq_false_iff_not, Decidable.not_not] at hg; omega) | (dsimp only; omega)) | exact lab_at (by first | omega | (simp only [Bool.or_eq_true, Bool.and_eq_true, Bool.or_eq_false_iff, Bool.and_eq_false_iff, Bool.not_eq_true', Bool.not_eq_false', decide_eq_true_eq, decide_eq_false_iff_not, Decidable.not_not] at hg; omega) | (dsimp only; omega)) | exact il_at (by first | omega | (simp only [Bool.or_eq_true, Bool.and_eq_true, Bool.or_eq_false_iff, Bool.and_eq_false_iff, Bool.not_eq_true', Bool.not_eq_false', decide_eq_true_eq, decide_eq_false_iff_not, Decidable.not_not] at hg; omega) | (dsimp only; omega)) | exact ikind_at (by first | omega | (simp only [Bool.or_eq_true, Bool.and_eq_true, Bool.or_eq_false_iff, Bool.and_eq_false_iff, Bool.not_eq_true', Bool.not_eq_false', decide_eq_true_eq, decide_eq_false_iff_not, Decidable.not_not] at hg; omega) | (dsimp only; omega)) | exact data_at (by first | omega | (simp only [Bool.or_eq_true, Bool.and_eq_true, Bool.or_eq_false_iff, Bool.and_eq_false_iff, Bool.not_eq_true', Bool.not_eq_false', decide_eq_true_eq, decide_eq_false_iff_not, Decidable.not_not] at hg; omega) | (dsimp only; omega)) | exact td_at (by first | omega | (simp only [Bool.or_eq_true, Bool.and_eq_true, Bool.or_eq_false_iff, Bool.and_eq_false_iff, Bool.not_eq_true', Bool.not_eq_false', decide_eq_true_eq, decide_eq_false_iff_not, Decidable.not_not] at hg; omega) | (dsimp only; omega)) | exact fpar_at (by first | omega | (simp only [Bool.or_eq_true, Bool.and_eq_true, Bool.or_eq_false_iff, Bool.and_eq_false_iff, Bool.not_eq_true', Bool.not_eq_false', decide_eq_true_eq, decide_eq_false_iff_not, Decidable.not_not] at hg; omega) | (dsimp only; omega)) | exact byte_at (by first | omega | (simp only [Bool.or_eq_true, Bool.and_eq_true, Bool.or_eq_false_iff, Bool.and_eq_false_iff, Bool.not_eq_true', Bool.not_eq_false', decide_eq_true_eq, decide_eq_false_iff_not, Decidable.not_not] at hg; omega) | (dsimp only; omega))) : P := h
theorem caZ {P : Prop} (h : P := by
 intro hg
 first | exact ins_cells (by omega) | exact fn_cells (by omega)) : P := h
theorem lsZ {P : Prop} (h : P := by first | exact len_code | exact len_funs | exact len_args | exact len_data | exact len_zw) : P := h
theorem loZ {P : Prop} (h : P := by first | omega | (simp only [len_code]; omega) | (simp only [len_funs]; omega) | (simp only [len_args]; omega) | (simp only [len_data]; omega) | (simp only [len_zw]; omega)) : P := h
theorem spZ {P : Prop} (h : P := by first | omega | (rw [List.length_map]; omega) | (rw [fr_len]; omega) | (rw [fd_len]; omega) | (rw [len_code]; omega) | (rw [len_funs]; omega)) : P := h
theorem evpZ {P : Prop} (h : P := by repeat (first | exact evp0 | apply evpC | exact evZ)) : P := h
theorem yvZ {P : Prop} (h : P := by first | exact Yv.move rZ evZ | exact Yv.assign rZ evZ | exact Yv.fieldBox rZ fF evZ | exact lbZ rZ evZ fA ibZ (by rfl) | exact Yv.eql rZ evZ evZ | exact Yv.nilChk rZ evZ | exact Yv.fieldEp rZ fF evZ | exact Yv.pickOr (t := .const (.bool true)) rZ evZ evZ | exact Yv.pickAnd rZ evZ evZ | exact Yv.nilChkEp rZ evZ | exact Yv.not rZ evZ | exact Yv.extract rZ evZ (by rfl) | exact Yv.neq rZ evZ evZ | exact Yv.lss rZ evZ evZ | exact Yv.leq rZ evZ evZ | exact Yv.gtr rZ evZ evZ | exact Yv.geq rZ evZ evZ | exact lbA rZ evZ fA ibZ (by rfl) (by rfl) | exact Yv.lenV rZ fS evZ | exact Yv.lenL rZ fT evZ | exact Yv.eqlNilP rZ fN evZ | exact Yv.neqNilP rZ fN evZ | exact Yv.fieldRp rZ fF evZ | exact Yv.addN_i64 rZ evZ evZ (fun hg => by omega) | exact Yv.subN_i64 rZ evZ evZ (fun hg => by omega) | exact lep rZ evZ fA rbZ ceZ | exact Yv.loadRp rZ fA evZ ceZ | exact Yv.loadRpA rZ fA evZ caZ | exact irw rZ evZ evZ fX rbZ (fun hg => ⟨rfl, (by first | omega | (simp only [Bool.or_eq_true, Bool.and_eq_true, Bool.or_eq_false_iff, Bool.and_eq_false_iff, Bool.not_eq_true', Bool.not_eq_false', decide_eq_true_eq, decide_eq_false_iff_not, Decidable.not_not] at hg; omega) | (dsimp only; omega))⟩) | exact irt rZ evZ evZ fX rbZ (fun hg => ⟨by first | omega | (dsimp only; omega), by first | omega | (dsimp only; omega)⟩) | exact Yv.indexSl rZ fX (B rfl) evZ evZ (fun hg => ⟨rfl, loZ⟩) | exact Yv.lenSl rZ fS (B rfl) evZ lsZ | exact Yv.buildS rZ fH evpZ (by exact fun _ => rfl)) : P := h
structure Hid (Q : Prop) : Prop where
 out : Q
theorem yZ {P Q : Prop} (h : Q) (k : Hid Q → P := by
 intro h
 first
  | exact AWL.y rZ rZ (B rZ) yvZ h.out
  | exact AWL.ygT rZ rZ rZ rZ (B rZ) yvZ h.out
  | exact AWL.ygF rZ rZ rZ rZ (B rZ) yvZ h.out
  | exact sbx rZ rZ rZ (E rfl rfl) fA ibZ (E rfl rfl) (by rfl) (by rfl) (by exact Nat.le_of_ble_eq_true rfl) h.out
  | exact sez rZ rZ rZ (E rfl rfl) fA rbZ (E rfl rfl) (by rfl) (by rfl) spZ h.out) : P := k ⟨h⟩
theorem qZ {P Q : Prop} (h : Q) (k : Hid Q → P := by
 intro h
 first
  | exact AWQ.y rZ rZ (B rZ) yvZ h.out
  | exact AWQ.ygT rZ rZ rZ rZ (B rZ) yvZ h.out
  | exact AWQ.ygF rZ rZ rZ rZ (B rZ) yvZ h.out) : P := k ⟨h⟩
theorem y1 {P Q : Prop} (h : Q) (k : Hid Q → P := by
 intro h
 iterate 1 refine yZ ?_
 exact h.out) : P := k ⟨h⟩
theorem y2 {P Q : Prop} (h : Q) (k : Hid Q → P := by
 intro h
 iterate 2 refine yZ ?_
 exact h.out) : P := k ⟨h⟩
theorem y3 {P Q : Prop} (h : Q) (k : Hid Q → P := by
 intro h
 iterate 3 refine yZ ?_
 exact h.out) : P := k ⟨h⟩
theorem y4 {P Q : Prop} (h : Q) (k : Hid Q → P := by
 intro h
 iterate 4 refine yZ ?_
 exact h.out) : P := k ⟨h⟩
theorem y5 {P Q : Prop} (h : Q) (k : Hid Q → P := by
 intro h
 iterate 5 refine yZ ?_
 exact h.out) : P := k ⟨h⟩
theorem y6 {P Q : Prop} (h : Q) (k : Hid Q → P := by
 intro h
 iterate 6 refine yZ ?_
 exact h.out) : P := k ⟨h⟩
theorem y7 {P Q : Prop} (h : Q) (k : Hid Q → P := by
 intro h
 iterate 7 refine yZ ?_
 exact h.out) : P := k ⟨h⟩
theorem y8 {P Q : Prop} (h : Q) (k : Hid Q → P := by
 intro h
 iterate 8 refine yZ ?_
 exact h.out) : P := k ⟨h⟩
theorem y9 {P Q : Prop} (h : Q) (k : Hid Q → P := by
 intro h
 iterate 9 refine yZ ?_
 exact h.out) : P := k ⟨h⟩
theorem y10 {P Q : Prop} (h : Q) (k : Hid Q → P := by
 intro h
 iterate 10 refine yZ ?_
 exact h.out) : P := k ⟨h⟩
theorem y11 {P Q : Prop} (h : Q) (k : Hid Q → P := by
 intro h
 iterate 11 refine yZ ?_
 exact h.out) : P := k ⟨h⟩
theorem y12 {P Q : Prop} (h : Q) (k : Hid Q → P := by
 intro h
 iterate 12 refine yZ ?_
 exact h.out) : P := k ⟨h⟩
theorem y13 {P Q : Prop} (h : Q) (k : Hid Q → P := by
 intro h
 iterate 13 refine yZ ?_
 exact h.out) : P := k ⟨h⟩
theorem y14 {P Q : Prop} (h : Q) (k : Hid Q → P := by
 intro h
 iterate 14 refine yZ ?_
 exact h.out) : P := k ⟨h⟩
theorem y15 {P Q : Prop} (h : Q) (k : Hid Q → P := by
 intro h
 iterate 15 refine yZ ?_
 exact h.out) : P := k ⟨h⟩
theorem y18 {P Q : Prop} (h : Q) (k : Hid Q → P := by
 intro h
 iterate 18 refine yZ ?_
 exact h.out) : P := k ⟨h⟩
theorem y19 {P Q : Prop} (h : Q) (k : Hid Q → P := by
 intro h
 iterate 19 refine yZ ?_
 exact h.out) : P := k ⟨h⟩
theorem y21 {P Q : Prop} (h : Q) (k : Hid Q → P := by
 intro h
 iterate 21 refine yZ ?_
 exact h.out) : P := k ⟨h⟩
theorem y22 {P Q : Prop} (h : Q) (k : Hid Q → P := by
 intro h
 iterate 22 refine yZ ?_
 exact h.out) : P := k ⟨h⟩
theorem y24 {P Q : Prop} (h : Q) (k : Hid Q → P := by
 intro h
 iterate 24 refine yZ ?_
 exact h.out) : P := k ⟨h⟩
theorem q1 {P Q : Prop} (h : Q) (k : Hid Q → P := by
 intro h
 iterate 1 refine qZ ?_
 exact h.out) : P := k ⟨h⟩
theorem q2 {P Q : Prop} (h : Q) (k : Hid Q → P := by
 intro h
 iterate 2 refine qZ ?_
 exact h.out) : P := k ⟨h⟩
theorem q3 {P Q : Prop} (h : Q) (k : Hid Q → P := by
 intro h
 iterate 3 refine qZ ?_
 exact h.out) : P := k ⟨h⟩
theorem q4 {P Q : Prop} (h : Q) (k : Hid Q → P := by
 intro h
 iterate 4 refine qZ ?_
 exact h.out) : P := k ⟨h⟩
theorem q5 {P Q : Prop} (h : Q) (k : Hid Q → P := by
 intro h
 iterate 5 refine qZ ?_
 exact h.out) : P := k ⟨h⟩
theorem q6 {P Q : Prop} (h : Q) (k : Hid Q → P := by
 intro h
 iterate 6 refine qZ ?_
 exact h.out) : P := k ⟨h⟩
theorem q7 {P Q : Prop} (h : Q) (k : Hid Q → P := by
 intro h
 iterate 7 refine qZ ?_
 exact h.out) : P := k ⟨h⟩
theorem q8 {P Q : Prop} (h : Q) (k : Hid Q → P := by
 intro h
 iterate 8 refine qZ ?_
 exact h.out) : P := k ⟨h⟩
theorem q9 {P Q : Prop} (h : Q) (k : Hid Q → P := by
 intro h
 iterate 9 refine qZ ?_
 exact h.out) : P := k ⟨h⟩
theorem q10 {P Q : Prop} (h : Q) (k : Hid Q → P := by
 intro h
 iterate 10 refine qZ ?_
 exact h.out) : P := k ⟨h⟩
theorem q11 {P Q : Prop} (h : Q) (k : Hid Q → P := by
 intro h
 iterate 11 refine qZ ?_
 exact h.out) : P := k ⟨h⟩
theorem q12 {P Q : Prop} (h : Q) (k : Hid Q → P := by
 intro h
 iterate 12 refine qZ ?_
 exact h.out) : P := k ⟨h⟩
theorem q14 {P Q : Prop} (h : Q) (k : Hid Q → P := by
 intro h
 iterate 14 refine qZ ?_
 exact h.out) : P := k ⟨h⟩
theorem q15 {P Q : Prop} (h : Q) (k : Hid Q → P := by
 intro h
 iterate 15 refine qZ ?_
 exact h.out) : P := k ⟨h⟩
theorem q17 {P Q : Prop} (h : Q) (k : Hid Q → P := by
 intro h
 iterate 17 refine qZ ?_
 exact h.out) : P := k ⟨h⟩
theorem q18 {P Q : Prop} (h : Q) (k : Hid Q → P := by
 intro h
 iterate 18 refine qZ ?_
 exact h.out) : P := k ⟨h⟩
theorem q23 {P Q : Prop} (h : Q) (k : Hid Q → P := by
 intro h
 iterate 23 refine qZ ?_
 exact h.out) : P := k ⟨h⟩
theorem q24 {P Q : Prop} (h : Q) (k : Hid Q → P := by
 intro h
 iterate 24 refine qZ ?_
 exact h.out) : P := k ⟨h⟩
section
variable {cx : Cx} {env : Env} {S : St} {ops : Array Oper} {l : List Oper} {K : Env → St → Prop} {Q : Exit → Env → St → Prop}
theorem nq (h : K env S) : AWQ cx ops [] K env S := AWQ.nil h
theorem rg {id : Nat} (h : AWL cx l.toArray l (Q .normal) env S) : AW cx (.region id l.toArray false) Q env S := AW.region h
theorem rq {id : Nat} {y : Code} (h : AWQ cx l.toArray l (AW cx y Q) env S) (hm : cx.P.follows .mixedOrders = true := by rfl) (hB : Region.lexB .any l.toArray = true := by kernel_rfl) : AW cx (.seq (.region id l.toArray true) y) Q env S := AW.rseqQ hm hB h
theorem sq {x y : Code} (h : AW cx x (thenQ (AW cx y Q) Q) env S) : AW cx (.seq x y) Q env S := AW.seq h
theorem bk {id : Nat} {c : Code} (h : AW cx c (blockQ id Q) env S) : AW cx (.block id c) Q env S := AW.block h
theorem sp (h : Q .normal env S) : AW cx .skip Q env S := AW.skip h
theorem cnd {k : Nat} {p : Prop} [Decidable p] {x y : Code} (hk : get k env = some (true, .v (.bool (decide p)))) (ht : p → AW cx x Q env S) (hf : ¬p → AW cx y Q env S) : AW cx (.cond (.tmp k) x y) Q env S := AW.cond hk (fun h => ht (of_decide_eq_true h)) (fun h => hf (of_decide_eq_false h))
theorem cfd {k : Nat} {p : Prop} [Decidable p] {x y : Code} (hk : get k env = some (true, .v (.bool (decide p)))) (hn : ¬p) (hf : ¬p → AW cx y Q env S) : AW cx (.cond (.tmp k) x y) Q env S := cnd hk (fun h => absurd h hn) hf
theorem ctd {k : Nat} {p : Prop} [Decidable p] {x y : Code} (hk : get k env = some (true, .v (.bool (decide p)))) (hn : p) (ht : p → AW cx x Q env S) : AW cx (.cond (.tmp k) x y) Q env S := cnd hk ht (fun h => absurd hn h)
theorem bxf {elem : TypeId} {t : T} {o : Oper} {x : Operand} {d : Nat} (hg : o.guard = none) (hd : o.dst = some d) (hN : d < cx.N) (ho : o.op = .box elem x) (hx : Ev env true x t) (hc : t.cellish = true) (hr : ∀ b, AWL cx ops l K ((d, true, .v (.pointer (some ⟨b, 0, none⟩))) :: env) (.box b elem (cellsT t) :: S)) : AWL cx ops (o :: l) K env S := AWL.boxOp hg hd hN ho hx hc fun b => AWL.perm (List.perm_append_singleton _ _).symm (hr b)
theorem alf {elem : TypeId} {zs : List Value} {o : Oper} {d : Nat} (hg : o.guard = none) (hd : o.dst = some d) (hN : d < cx.N) (ho : o.op = .alloc elem) (hz : zeroCellsOf cx.P elem = some zs) (hr : ∀ b, AWL cx ops l K ((d, true, .v (.pointer (some ⟨b, 0, none⟩))) :: env) (.box b elem (zs.map .v) :: S)) : AWL cx ops (o :: l) K env S := AWL.allocOp hg hd hN ho hz fun b => AWL.perm (List.perm_append_singleton _ _).symm (hr b)
theorem xt {id : Nat} (h : Q (.exit id) env S) : AW cx (.exit id) Q env S := AW.exit h
end
theorem sm {p q : Prop} (h : p) (k : p → q := by
 intro h
 simp only [Bool.or_eq_true, Bool.and_eq_true, Bool.or_eq_false_iff, Bool.and_eq_false_iff, Bool.not_eq_true', Bool.not_eq_false', decide_eq_true_eq, decide_eq_false_iff_not, Decidable.not_not] at h
 exact h) : q := k h
theorem og {P : Prop} (h : P := by first | omega | (simp only [Bool.or_eq_true, Bool.and_eq_true, Bool.or_eq_false_iff, Bool.and_eq_false_iff, Bool.not_eq_true', Bool.not_eq_false', decide_eq_true_eq, decide_eq_false_iff_not, Decidable.not_not] at hg; omega)) : P := h
theorem o2 {P : Prop} (h : P := by first | exact ⟨by omega, by omega⟩ | (simp only [Bool.or_eq_true, Bool.and_eq_true, Bool.or_eq_false_iff, Bool.and_eq_false_iff, Bool.not_eq_true', Bool.not_eq_false', decide_eq_true_eq, decide_eq_false_iff_not, Decidable.not_not] at hg; exact ⟨by omega, by omega⟩)) : P := h
theorem sbZ {P : Prop} (h : P := by repeat (first | exact Sub.nil | refine Sub.cons rfl rfl ?_ | refine Sub.cons rfl (by simp) ?_)) : P := h
theorem ai {X Y P : Prop} (hf : X) (hN : Y) {Z : Prop} (h : Z) (k : X → Y → Z → P := by exact fun hf hN h => ACalls.intro hf rfl hN (Nat.le_of_ble_eq_true rfl) rfl h) : P := k hf hN h
theorem lsr {P : Program} {f : FuncId} {ts : List T} {S0 : St} {R R' : T → St → Prop} (hr : ∀ t S', R t S' → ∃ S'', S''.Sublist S' ∧ R' t S'') (h : ACalls P f ts S0 R) : ACalls P f ts S0 R' := h.less hr
theorem kc {X Y P : Prop} (hc : X) (hr : Y) (k : X → Y → P := by exact fun hc hr => AWL.call rfl rfl (B rfl) rfl fC (E rfl rfl) (evs_of rfl) (by rfl) hc hr) : P := k hc hr
theorem kt {X Y P : Prop} (hc : X) (hr : Y) (k : X → Y → P := by exact fun hc hr => AWL.callT rfl rfl (B rfl) rfl fC (E rfl rfl) (evs_of rfl) hc hr) : P := k hc hr
theorem kp {X Y P : Prop} (hc : X) (hr : Y) (k : X → Y → P := by exact fun hc hr => AWL.callP rfl rfl (B rfl) rfl fC (E rfl rfl) (evs_of rfl) hc (fun t S h => h) hr) : P := k hc hr
theorem kk {X Y P : Prop} (hc : X) (hr : Y) (k : X → Y → P := by first | exact fun hc hr => AWL.callK rfl rfl (B rfl) rfl fC (E rfl rfl) (evs_of rfl) (by rfl) hc (fun t S h => h) hr | exact fun hc hr => AWL.callK rfl rfl (B rfl) rfl fC (E rfl rfl) (evs_of rfl) (List.append_nil _).symm hc (fun t S h => h) hr) : P := k hc hr
theorem ka {X Y P : Prop} (hc : X) (hr : Y) (k : X → Y → P := by exact fun hc hr => AWL.callAll rfl rfl (B rfl) rfl fC (E rfl rfl) (evs_of rfl) hc hr) : P := k hc hr
section
variable {cx : Cx} {env : Env} {S : St} {o : Oper} {g : Bool} {x y : Operand}
theorem ix {t e e' : TypeId} {k j i n c : Nat} {kd : IntKind} {p : Int} {A : Option Addr} {cs : List T} (ho : o.op = .indexAddr t x y := by rfl) (hx : Ev env g x (.v (.slice A n c)) := by exact evZ) (hy : Ev env g y (.v (.int kd p)) := by exact evZ) (h : sliceSz cx.P t = some (e, k) := by exact fX) (hi : S[i]? = some (.row A n c e' k cs) := by exact rbZ) (hj : g = true → p = (j : Int) ∧ j < n) : Yv cx o env S g (.ep (.slice A n c) (j * k)) := Yv.indexRow ho h hi hy hx hj
theorem lw {t e : TypeId} {n m p i c size : Nat} {A : Option Addr} {cs : List T} {r : T} (ho : o.op = .load t x := by rfl) (hx : Ev env g x (.ep (.slice A n c) p) := by exact evZ) (h : aggSize cx.P t = some (false, m) := by exact fA) (hi : S[i]? = some (.row A n c e size cs) := by exact rbZ) (hr : g = true → cs[p]? = some r) : Yv cx o env S g r := Yv.loadEp ho h hi hx hr
theorem fir {t e e' : TypeId} {k j i n c : Nat} {kd : IntKind} {p : Int} {A : Option Addr} {cs : List T} (ho : o.op = .indexAddr t x y) (hx : Ev env true x (.v (.slice A n c))) (hy : Ev env true y (.v (.int kd p))) (h : sliceSz cx.P t = some (e, k)) (hi : S[i]? = some (.row A n c e' k cs)) (hj : p = (j : Int) ∧ j < n) : ∀ a w, Sim cx env S a w → ∃ u, VRep w (cx.X ++ M S) (.ep (.slice A n c) (j * k)) u ∧ ∀ w', (execOp a.eval o).run cx.P w' = .ok (.value u) w' := freeIdxRow ho h hi hy hx hj
end
theorem fvZ {P : Prop} (h : P := by first | exact freeMove rfl (E rfl rfl) | exact freeField rfl fF (E rfl rfl) | exact freeNil rfl (E rfl rfl) | exact freeNilEp rfl (E rfl rfl) | exact freeFieldEp rfl fF (E rfl rfl) | exact freeFieldRp rfl fF (E rfl rfl) | exact freeExtract rfl (E rfl rfl) rfl | exact freeAssign rfl (E rfl rfl) | exact fir rfl (E rfl rfl) (E rfl rfl) fX rbZ ⟨rfl, by omega⟩) : P := h
theorem hvZ {P : Prop} (h : P := by first | exact heldAll fvZ | exact heldB 0 rfl fA (E rfl rfl) rfl (fun _ _ => .v _) | exact heldB 1 rfl fA (E rfl rfl) rfl (fun _ _ => .v _) | exact heldB 2 rfl fA (E rfl rfl) rfl (fun _ _ => .v _) | exact heldB 3 rfl fA (E rfl rfl) rfl (fun _ _ => .v _) | exact heldB 4 rfl fA (E rfl rfl) rfl (fun _ _ => .v _) | exact heldB 5 rfl fA (E rfl rfl) rfl (fun _ _ => .v _) | exact heldB 6 rfl fA (E rfl rfl) rfl (fun _ _ => .v _) | exact heldB 7 rfl fA (E rfl rfl) rfl (fun _ _ => .v _) | exact heldB 8 rfl fA (E rfl rfl) rfl (fun _ _ => .v _) | exact heldE 0 rfl fA (E rfl rfl) rfl (fun _ _ => .v _) | exact heldE 1 rfl fA (E rfl rfl) rfl (fun _ _ => .v _) | exact heldE 2 rfl fA (E rfl rfl) rfl (fun _ _ => .v _) | exact heldE 3 rfl fA (E rfl rfl) rfl (fun _ _ => .v _) | exact heldE 4 rfl fA (E rfl rfl) rfl (fun _ _ => .v _) | exact heldE 5 rfl fA (E rfl rfl) rfl (fun _ _ => .v _) | exact heldE 6 rfl fA (E rfl rfl) rfl (fun _ _ => .v _) | exact heldE 7 rfl fA (E rfl rfl) rfl (fun _ _ => .v _) | exact heldE 8 rfl fA (E rfl rfl) rfl (fun _ _ => .v _)) : P := h
theorem tcA {P : Prop} (h : P := by repeat (first | exact tc0 | refine tcB 0 rfl rfl pinV ?_ | refine tcB 0 rfl rfl pinE ?_ | refine tcB 1 rfl rfl pinV ?_ | refine tcB 1 rfl rfl pinE ?_ | refine tcB 2 rfl rfl pinV ?_ | refine tcB 2 rfl rfl pinE ?_ | refine tcB 3 rfl rfl pinV ?_ | refine tcB 3 rfl rfl pinE ?_ | refine tcB 4 rfl rfl pinV ?_ | refine tcB 4 rfl rfl pinE ?_ | refine tcB 5 rfl rfl pinV ?_ | refine tcB 5 rfl rfl pinE ?_ | refine tcB 6 rfl rfl pinV ?_ | refine tcB 6 rfl rfl pinE ?_ | refine tcB 7 rfl rfl pinV ?_ | refine tcB 7 rfl rfl pinE ?_ | refine tcB 8 rfl rfl pinV ?_ | refine tcB 8 rfl rfl pinE ?_ | refine tcB 9 rfl rfl pinV ?_ | refine tcB 9 rfl rfl pinE ?_ | refine tcB 10 rfl rfl pinV ?_ | refine tcB 10 rfl rfl pinE ?_ | refine tcB 11 rfl rfl pinV ?_ | refine tcB 11 rfl rfl pinE ?_ | refine tcR 0 rfl fr0 pinV ?_ | refine tcR 0 rfl fd0 pinV ?_ | refine tcR 0 rfl fr1 pinV ?_ | refine tcR 0 rfl fd1 pinV ?_ | refine tcR 0 rfl fr2 pinV ?_ | refine tcR 0 rfl fd2 pinV ?_ | refine tcR 0 rfl fr3 pinV ?_ | refine tcR 0 rfl fd3 pinV ?_ | refine tcR 0 rfl fr4 pinV ?_ | refine tcR 0 rfl fd4 pinV ?_ | refine tcR 0 rfl fr5 pinV ?_ | refine tcR 0 rfl fd5 pinV ?_ | refine tcR 0 rfl fr6 pinV ?_ | refine tcR 0 rfl fd6 pinV ?_ | refine tcR 1 rfl fr0 pinV ?_ | refine tcR 1 rfl fd0 pinV ?_ | refine tcR 1 rfl fr1 pinV ?_ | refine tcR 1 rfl fd1 pinV ?_ | refine tcR 1 rfl fr2 pinV ?_ | refine tcR 1 rfl fd2 pinV ?_ | refine tcR 1 rfl fr3 pinV ?_ | refine tcR 1 rfl fd3 pinV ?_ | refine tcR 1 rfl fr4 pinV ?_ | refine tcR 1 rfl fd4 pinV ?_ | refine tcR 1 rfl fr5 pinV ?_ | refine tcR 1 rfl fd5 pinV ?_ | refine tcR 1 rfl fr6 pinV ?_ | refine tcR 1 rfl fd6 pinV ?_ | refine tcR 2 rfl fr0 pinV ?_ | refine tcR 2 rfl fd0 pinV ?_ | refine tcR 2 rfl fr1 pinV ?_ | refine tcR 2 rfl fd1 pinV ?_ | refine tcR 2 rfl fr2 pinV ?_ | refine tcR 2 rfl fd2 pinV ?_ | refine tcR 2 rfl fr3 pinV ?_ | refine tcR 2 rfl fd3 pinV ?_ | refine tcR 2 rfl fr4 pinV ?_ | refine tcR 2 rfl fd4 pinV ?_ | refine tcR 2 rfl fr5 pinV ?_ | refine tcR 2 rfl fd5 pinV ?_ | refine tcR 2 rfl fr6 pinV ?_ | refine tcR 2 rfl fd6 pinV ?_ | refine tcR 3 rfl fr0 pinV ?_ | refine tcR 3 rfl fd0 pinV ?_ | refine tcR 3 rfl fr1 pinV ?_ | refine tcR 3 rfl fd1 pinV ?_ | refine tcR 3 rfl fr2 pinV ?_ | refine tcR 3 rfl fd2 pinV ?_ | refine tcR 3 rfl fr3 pinV ?_ | refine tcR 3 rfl fd3 pinV ?_ | refine tcR 3 rfl fr4 pinV ?_ | refine tcR 3 rfl fd4 pinV ?_ | refine tcR 3 rfl fr5 pinV ?_ | refine tcR 3 rfl fd5 pinV ?_ | refine tcR 3 rfl fr6 pinV ?_ | refine tcR 3 rfl fd6 pinV ?_)) : P := h
section
variable {cx : Cx} {env : Env} {S : St} {o : Oper} {ops : Array Oper} {K : Env → St → Prop} {d : Nat} {Hd : World → Prop}
theorem tp {fuel : Nat} {listed : Array Bool} {t : T} (i : Nat) (h : AWP cx ops fuel (listed.setIfInBounds i true) K ((d, true, t) :: env) S) (hi : ops[i]? = some o := by rfl) (hy : ∀ a w, Sim cx env S a w → ∃ u, VRep w (cx.X ++ M S) t u ∧ ∀ w', (execOp a.eval o).run cx.P w' = .ok (.value u) w' := by exact fvZ) (hd : o.dst = some d := by rfl) (hs : Region.noSelect ops = true := by kernel_rfl) (hf : Region.free .any ops listed i = true := by kernel_rfl) (hr : (Region.ready .any ops listed).contains i = true := by kernel_rfl) (hg : o.guard = none := by rfl) (hN : d < cx.N := by exact B rfl) : AWP cx ops (fuel + 1) listed K env S := AWP.take hi hs hf hr hg hd hN hy h
theorem tq {fuel : Nat} {listed : Array Bool} {t : T} (i : Nat) (h : AWH cx ops Hd fuel (listed.setIfInBounds i true) K ((d, true, t) :: env) S) (hi : ops[i]? = some o := by rfl) (hy : ∀ a w, Sim cx env S a w → ∃ u, VRep w (cx.X ++ M S) t u ∧ ∀ w', Hd w' → (execOp a.eval o).run cx.P w' = .ok (.value u) w' := by exact hvZ) (hd : o.dst = some d := by rfl) (hs : Region.noSelect ops = true := by kernel_rfl) (hf : Region.free .any ops listed i = true := by kernel_rfl) (hr : (Region.ready .any ops listed).contains i = true := by kernel_rfl) (hg : o.guard = none := by rfl) (hN : d < cx.N := by exact B rfl) : AWH cx ops Hd (fuel + 1) listed K env S := AWH.take hi hs hf hr hg hd hN hy h
theorem tg {fuel j dj : Nat} {b want : Bool} {listed : Array Bool} {t : T} (i : Nat) (h : AWH cx ops Hd fuel (listed.setIfInBounds i true) K ((d, true, t) :: env) S) (hi : ops[i]? = some o := by rfl) (hg : o.guard = some (j, want) := by rfl) (hj : (ops[j]?).bind (·.dst) = some dj := by rfl) (hk : get dj env = some (true, .v (.bool b)) := by rfl) (hb : b = want) (hy : ∀ a w, Sim cx env S a w → ∃ u, VRep w (cx.X ++ M S) t u ∧ ∀ w', Hd w' → (execOp a.eval o).run cx.P w' = .ok (.value u) w' := by exact hvZ) (hd : o.dst = some d := by rfl) (hs : Region.noSelect ops = true := by kernel_rfl) (hf : Region.free .any ops listed i = true := by kernel_rfl) (hr : (Region.ready .any ops listed).contains i = true := by kernel_rfl) (hN : d < cx.N := by exact B rfl) : AWH cx ops Hd (fuel + 1) listed K env S := AWH.takeG hi hs hf hr hg hj hk hb hd hN hy h
theorem oh {fuel : Nat} {listed : Array Bool} (i : Nat) (h : AWL cx ops [o] (fun env S => Tells cx Hd env S ∧ AWH cx ops Hd fuel (listed.setIfInBounds i true) K env S) env S) (hr : Region.ready .any ops listed = [i] := by kernel_rfl) (hi : ops[i]? = some o := by rfl) : AWH cx ops Hd (fuel + 1) listed K env S := AWH.one hr hi h
theorem op {fuel : Nat} {listed : Array Bool} (i : Nat) (h : AWL cx ops [o] (AWP cx ops fuel (listed.setIfInBounds i true) K) env S) (hr : Region.ready .any ops listed = [i] := by kernel_rfl) (hi : ops[i]? = some o := by rfl) : AWP cx ops (fuel + 1) listed K env S := AWP.one hr hi h
theorem wp2 {fuel : Nat} {o' : Oper} {listed : Array Bool} (i j : Nat) (h : AWL cx ops [o] (AWP cx ops fuel (listed.setIfInBounds i true) K) env S) (h' : AWL cx ops [o'] (AWP cx ops fuel (listed.setIfInBounds j true) K) env S) (hr : Region.ready .any ops listed = [i, j] := by kernel_rfl) (hi : ops[i]? = some o := by rfl) (hj : ops[j]? = some o' := by rfl) : AWP cx ops (fuel + 1) listed K env S := AWP.two hr hi hj h h'
theorem phn {fuel : Nat} {listed : Array Bool} {l : List Oper} (n rest : Nat) (h : AWQ cx l.toArray (maskL (List.replicate n true) l) (fun env S => AWP cx l.toArray rest (afterM (List.replicate n true) 0 listed) K env S) env S) (hf : (List.replicate n true).count true + rest = fuel := by rfl) (hB : phaseB .any l.toArray (List.replicate n true) listed = true := by kernel_rfl) (hle : (List.range listed.size).all (fun j => !listed.getD j false || (afterM (List.replicate n true) 0 listed).getD j false) = true := by kernel_rfl) : AWP cx l.toArray fuel listed K env S := AWP.phase _ rest hf hB hle h
theorem kh {P Q : Prop} (h : Q) (k : Q → P := by exact fun h => AWL.nil (kpH tcA h)) : P := k h
theorem dn {P Q : Prop} (h : Q) (k : Q → P := by first | exact AWP.done (by kernel_rfl) | exact AWH.done (by kernel_rfl)) : P := k h
end
theorem cq {A B P p q : Prop} (ht : p → A) (hf : q → B) (k : (p → A) → (q → B) → P := by first | exact cnd rfl | exact AW.cond rfl) : P := k ht hf
theorem cf {B P q : Prop} (hf : q → B) (k : (q → B) → P := by exact cfd rfl (by omega)) : P := k hf
theorem ct {A P p : Prop} (ht : p → A) (k : (p → A) → P := by exact ctd rfl (by omega)) : P := k ht
theorem rt {P Q : Prop} (h : Q) (k : Q → P := by first | exact fun h => AW.ret (retI (.tmp rfl .nil) h) | exact fun h => AW.ret (retI (.tmp rfl (.tmp rfl .nil)) h) | exact fun h => AW.ret (retI (.cellA (i := 0) rfl fA (by rfl) (by rfl) (by rfl) (.tmp rfl .nil)) h) | exact fun h => AW.ret (retI (.cellA (i := 1) rfl fA (by rfl) (by rfl) (by rfl) (.tmp rfl .nil)) h) | exact fun h => AW.ret (retI (.cellA (i := 2) rfl fA (by rfl) (by rfl) (by rfl) (.tmp rfl .nil)) h) | exact fun h => AW.ret (retI (.cellA (i := 3) rfl fA (by rfl) (by rfl) (by rfl) (.tmp rfl .nil)) h) | exact fun h => AW.ret (retI (.cellA (i := 4) rfl fA (by rfl) (by rfl) (by rfl) (.tmp rfl .nil)) h) | exact fun h => AW.ret (retI (.cellA (i := 5) rfl fA (by rfl) (by rfl) (by rfl) (.tmp rfl .nil)) h) | exact fun h => AW.ret (retI (.cellA (i := 6) rfl fA (by rfl) (by rfl) (by rfl) (.tmp rfl .nil)) h) | exact fun h => AW.ret (retI (.cellA (i := 7) rfl fA (by rfl) (by rfl) (by rfl) (.tmp rfl .nil)) h) | exact fun h => AW.ret (retI (.cellA (i := 8) rfl fA (by rfl) (by rfl) (by rfl) (.tmp rfl .nil)) h) | exact fun h => AW.ret (retI (.cellA (i := 9) rfl fA (by rfl) (by rfl) (by rfl) (.tmp rfl .nil)) h)) : P := k h
theorem bx {Y P : Prop} (h : Y) (k : Y → P := by first | exact AWL.boxOp rfl rfl (B rfl) rfl (E rfl rfl) rfl | exact AWL.allocOp rfl rfl (B rfl) rfl fZ) : P := k h
theorem bg {Y P : Prop} (h : Y) (k : Y → P := by first | exact bxf rfl rfl (B rfl) rfl (E rfl rfl) rfl | exact alf rfl rfl (B rfl) rfl fZ) : P := k h
section
variable {cx : Cx} {env : Env} {S : St} {Q : Exit → Env → St → Prop}
theorem lp1 {α : Type} {c : Code} (E : α → Env) (H : α → St) (inv : α → Prop) (μ : α → Nat) (x₀ : α) (h₀ : inv x₀) (round : ∀ x, inv x → AW cx c (thenQ (fun env' S' => ∃ y, inv y ∧ μ y < μ x ∧ Sub (E y) env' ∧ S' = H y) Q) (E x) (H x)) (he : Sub (E x₀) env := by exact sbZ) (hS : S = H x₀ := by rfl) : AW cx (.loop c) Q env S := AW.loop E H inv μ x₀ h₀ he hS round
theorem lp2 {α β : Type} {c : Code} (E : α → β → Env) (H : α → β → St) (inv : α → β → Prop) (μ : α → β → Nat) (x₀ : α) (y₀ : β) (h₀ : inv x₀ y₀) (round : ∀ x y, inv x y → AW cx c (thenQ (fun env' S' => ∃ x' y', inv x' y' ∧ μ x' y' < μ x y ∧ Sub (E x' y') env' ∧ S' = H x' y') Q) (E x y) (H x y)) (he : Sub (E x₀ y₀) env := by exact sbZ) (hS : S = H x₀ y₀ := by rfl) : AW cx (.loop c) Q env S := AW.loop2 E H inv μ x₀ y₀ h₀ he hS round
theorem lp3 {α β γ : Type} {c : Code} (E : α → β → γ → Env) (H : α → β → γ → St) (inv : α → β → γ → Prop) (μ : α → β → γ → Nat) (x₀ : α) (y₀ : β) (z₀ : γ) (h₀ : inv x₀ y₀ z₀) (round : ∀ x y z, inv x y z → AW cx c (thenQ (fun env' S' => ∃ x' y' z', inv x' y' z' ∧ μ x' y' z' < μ x y z ∧ Sub (E x' y' z') env' ∧ S' = H x' y' z') Q) (E x y z) (H x y z)) (he : Sub (E x₀ y₀ z₀) env := by exact sbZ) (hS : S = H x₀ y₀ z₀ := by rfl) : AW cx (.loop c) Q env S := AW.loop3 E H inv μ x₀ y₀ z₀ h₀ he hS round
theorem lp4 {α β γ δ : Type} {c : Code} (E : α → β → γ → δ → Env) (H : α → β → γ → δ → St) (inv : α → β → γ → δ → Prop) (μ : α → β → γ → δ → Nat) (x₀ : α) (y₀ : β) (z₀ : γ) (u₀ : δ) (h₀ : inv x₀ y₀ z₀ u₀) (round : ∀ x y z u, inv x y z u → AW cx c (thenQ (fun env' S' => ∃ x' y' z' u', inv x' y' z' u' ∧ μ x' y' z' u' < μ x y z u ∧ Sub (E x' y' z' u') env' ∧ S' = H x' y' z' u') Q) (E x y z u) (H x y z u)) (he : Sub (E x₀ y₀ z₀ u₀) env := by exact sbZ) (hS : S = H x₀ y₀ z₀ u₀ := by rfl) : AW cx (.loop c) Q env S := AW.loop4 E H inv μ x₀ y₀ z₀ u₀ h₀ he hS round
end
structure Ins where
 kind : Int
 d : Int
 a : Int
 b : Int
 l : Int
 f : Int
 cond : Int
 real : Int
 size : Int
 imm : Int
 args : List Int
 deriving Inhabited
structure Fn where
 name : List UInt8
 params : Int
 regs : Int
 slots : Int
 code : List Ins
 deriving Inhabited
structure Prog where
 funs : List Fn
 data : List UInt8
 zero : Int
 deriving Inhabited
def zi (z : Int) : T := .v (.int .i64 z)
def bv (b : Bool) : T := .v (.bool b)
def insCells (i : Ins) : List T := [zi i.kind, zi i.d, zi i.a, zi i.b, zi i.l, zi i.f, zi i.cond, zi i.real, zi i.size, zi i.imm, .sl 1 (i.args.map zi)]
def fnCells (f : Fn) : List T := [sv f.name, zi f.params, zi f.regs, zi f.slots, .sl 11 (f.code.flatMap insCells)]
def progCells (p : Prog) : List T := [.sl 5 (p.funs.flatMap fnCells), .sl 1 (p.data.map u8), zi p.zero]
theorem ik (i : Ins) : (insCells i).length = 11 := rfl
theorem fk (f : Fn) : (fnCells f).length = 5 := rfl
structure Has where
 d : Bool
 a : Bool
 b : Bool
 args : Bool
 cond : Bool
 size : Bool
 l : Bool
 f : Bool
 deriving Inhabited, DecidableEq
def hasCells (h : Has) : List T := [bv h.d, bv h.a, bv h.b, bv h.args, bv h.cond, bv h.size, bv h.l, bv h.f]
def has0 : Has := ⟨false, false, false, false, false, false, false, false⟩
def ofF (k : Int) : Option Has :=
 if ((k = 1 ∨ k = 27) ∨ k = 29) ∨ k = 31 then some { has0 with d := true }
 else if k = 2 then some { has0 with d := true, a := true }
 else if (3 ≤ k ∧ k ≤ 14) ∨ k = 16 then some { has0 with d := true, a := true, b := true }
 else if k = 15 then some { has0 with d := true, a := true, b := true, cond := true }
 else if k = 17 then some { has0 with d := true, a := true, size := true }
 else if k = 18 then some { has0 with a := true, b := true, size := true }
 else if k = 19 ∨ k = 20 then some { has0 with l := true }
 else if k = 21 then some { has0 with a := true, b := true, cond := true, l := true }
 else if k = 22 then some { has0 with d := true, f := true, args := true }
 else if k = 23 then some { has0 with d := true, a := true, args := true }
 else if k = 24 then some { has0 with f := true, args := true }
 else if k = 25 then some { has0 with a := true, args := true }
 else if k = 26 ∨ k = 32 then some { has0 with a := true }
 else if k = 28 then some { has0 with d := true, f := true }
 else if k = 30 then some { has0 with d := true, args := true }
 else none
def hasF (k : Int) : Has := (ofF k).getD has0
def isF (k : Int) : Bool := (ofF k).isSome
def endsF (k : Int) : Bool := ((decide (k = 20) || decide (k = 24)) || decide (k = 25)) || decide (k = 26)
/-! ### maps of labels -/
abbrev LM := List (Int × Int)
def lmT (m : LM) : List (Key × T) := m.map fun e => (.i .i64 e.1, zi e.2)
def getL (k : Int) : LM → Int
 | [] => 0
 | e :: r => if e.1 = k then e.2 else getL k r
def putL (k v : Int) : LM → LM
 | [] => [(k, v)]
 | e :: r => if e.1 = k then (k, v) :: r else e :: putL k v r
theorem get_lm (k : Int) : ∀ m : LM, (getK (.i .i64 k) (lmT m)).getD (zi 0) = zi (getL k m)
 | [] => rfl
 | e :: r => by
  have ih := get_lm k r
  by_cases h : e.1 = k
  ·rw [getL, if_pos h]
   show (getK _ ((_, _) :: _)).getD _ = _
   rw [getK, if_pos (by simp [h])]; rfl
  ·rw [getL, if_neg h, ← ih]
   show (getK _ ((_, _) :: _)).getD _ = _
   rw [getK, if_neg (by simp [h])]; rfl
theorem put_lm (k v : Int) : ∀ m : LM, putK (.i .i64 k) (zi v) (lmT m) = lmT (putL k v m)
 | [] => rfl
 | e :: r => by
  have ih := put_lm k v r
  by_cases h : e.1 = k
  ·rw [putL, if_pos h]
   show putK _ _ ((_, _) :: _) = _
   rw [putK, if_pos (by simp [h])]; rfl
  ·rw [putL, if_neg h]
   show putK _ _ ((_, _) :: _) = _
   rw [putK, if_neg (by simp [h]), show putK (.i .i64 k) (zi v) (r.map fun e => (Key.i .i64 e.1, zi e.2)) = lmT (putL k v r) from ih]; rfl
theorem lm_good (m : LM) (dd : TypeDesc) (h : dd = .int .i64) : ∀ e ∈ lmT m, goodK dd e.1 = true := by
 subst h
 intro e he
 obtain ⟨x, _, rfl⟩ := List.mem_map.1 he
 rfl
def cntStep (m : LM) (i : Ins) : LM := if i.kind = 19 then putL i.l (getL i.l m + 1) m else m
def cntL (code : List Ins) : LM := code.foldl cntStep []
def whStep (m : LM) (e : Ins × Nat) : LM := if e.1.kind = 19 then putL e.1.l (e.2 : Int) m else m
def whL (code : List Ins) : LM := code.zipIdx.foldl whStep []
theorem gd {α : Type} [Inhabited α] {l : List α} {j : Nat} (h : j < l.length) : l.getD j default = l[j] := by simp [h]
theorem take_gd {α : Type} [Inhabited α] {l : List α} {j : Nat} (h : j < l.length) : l.take (j + 1) = l.take j ++ [l.getD j default] := by
 rw [List.take_succ_eq_append_getElem h, gd h]
theorem cnt_succ {code : List Ins} {j : Nat} (h : j < code.length) : cntL (code.take (j + 1)) = cntStep (cntL (code.take j)) (code.getD j default) := by
 unfold cntL
 rw [take_gd h, List.foldl_append]
 rfl
def whT (code : List Ins) (j : Nat) : LM := (code.zipIdx.take j).foldl whStep []
theorem wh_succ {code : List Ins} {j : Nat} (h : j < code.length) : whT code (j + 1) = whStep (whT code j) (code.getD j default, j) := by
 unfold whT
 rw [List.take_succ_eq_append_getElem (by simpa using h), List.foldl_append, gd h]
 simp
theorem wh_all {code : List Ins} {j : Nat} (h : code.length ≤ j) : whT code j = whL code := by
 unfold whT whL
 rw [List.take_of_length_le (by simpa using h)]
/-! ### cells of programs -/
theorem len_flat {α : Type} {f : α → List T} {k : Nat} (hk : ∀ a, (f a).length = k) : ∀ (l : List α), (l.flatMap f).length = l.length * k
 | [] => by simp
 | a :: r => by rw [List.flatMap_cons, List.length_append, hk, len_flat hk r, List.length_cons, Nat.add_mul]; omega
theorem drop_flat {α : Type} {f : α → List T} {k : Nat} (hk : ∀ a, (f a).length = k) : ∀ (l : List α) (j : Nat), (l.flatMap f).drop (j * k) = (l.drop j).flatMap f
 | [], j => by simp
 | a :: r, 0 => by simp
 | a :: r, j + 1 => by
  rw [List.flatMap_cons, Nat.add_mul, Nat.one_mul, Nat.add_comm, List.drop_append, List.drop_of_length_le (by rw [hk]; omega), hk, List.nil_append, Nat.add_sub_cancel_left, drop_flat hk r j]
  rfl
theorem flat_at {α : Type} [Inhabited α] {f : α → List T} {k : Nat} (hk : ∀ a, (f a).length = k) {l : List α} {j : Nat} (h : j < l.length) (i : Nat) (hi : i < k) : (l.flatMap f)[j * k + i]? = (f (l.getD j default))[i]? := by
 rw [← List.getElem?_drop, drop_flat hk, List.drop_eq_getElem_cons h, List.flatMap_cons, gd h, List.getElem?_append_left (by rw [hk]; exact hi)]
theorem flat_cells {α : Type} [Inhabited α] {f : α → List T} {k : Nat} (hk : ∀ a, (f a).length = k) {l : List α} {j : Nat} (h : j < l.length) : ((l.flatMap f).drop (j * k)).take k = f (l.getD j default) := by
 rw [drop_flat hk, List.drop_eq_getElem_cons h, List.flatMap_cons, gd h, List.take_left' (hk _)]
theorem len_code {l : List Ins} : (l.flatMap insCells).length = l.length * 11 := len_flat ik l
theorem len_funs {l : List Fn} : (l.flatMap fnCells).length = l.length * 5 := len_flat fk l
theorem len_args {l : List Int} : (l.map zi).length = l.length * 1 := by simp
theorem len_data {l : List UInt8} : (l.map u8).length = l.length * 1 := by simp
theorem ikind_at {l : List Ins} {j : Nat} (h : j < l.length) : (l.flatMap insCells)[j * 11 + 0]? = some (zi (l.getD j default).kind) := flat_at ik h 0 (by decide)
theorem il_at {l : List Ins} {j : Nat} (h : j < l.length) : (l.flatMap insCells)[j * 11 + 4]? = some (zi (l.getD j default).l) := flat_at ik h 4 (by decide)
theorem ins_cells {l : List Ins} {j : Nat} (h : j < l.length) : ((l.flatMap insCells).drop (j * 11)).take 11 = insCells (l.getD j default) ∧ (insCells (l.getD j default)).length = 11 := ⟨flat_cells ik h, rfl⟩
theorem fn_cells {l : List Fn} {j : Nat} (h : j < l.length) : ((l.flatMap fnCells).drop (j * 5)).take 5 = fnCells (l.getD j default) ∧ (fnCells (l.getD j default)).length = 5 := ⟨flat_cells fk h, rfl⟩
theorem fpar_at {l : List Fn} {j : Nat} (h : j < l.length) : (l.flatMap fnCells)[j * 5 + 1]? = some (zi (l.getD j default).params) := flat_at fk h 1 (by decide)
theorem fcode_at {l : List Fn} {j : Nat} (h : j < l.length) : (l.flatMap fnCells)[j * 5 + 4]? = some (.sl 11 ((l.getD j default).code.flatMap insCells)) := flat_at fk h 4 (by decide)
theorem arg_at {l : List Int} {j : Nat} (h : j < l.length) : (l.map zi)[j * 1 + 0]? = some (zi (l.getD j default)) := by
 rw [Nat.mul_one, Nat.add_zero, List.getElem?_map, List.getElem?_eq_getElem h, gd h]; rfl
theorem getL_put (k v k' : Int) : ∀ m : LM, getL k' (putL k v m) = if k' = k then v else getL k' m
 | [] => by
  simp only [putL, getL]
  by_cases h : k = k'
  ·rw [if_pos h, if_pos h.symm]
  ·rw [if_neg h, if_neg (fun e => h e.symm)]
 | e :: r => by
  have ih := getL_put k v k' r
  simp only [putL]
  by_cases h : e.1 = k
  ·rw [if_pos h]
   simp only [getL]
   by_cases h2 : k = k'
   ·rw [if_pos h2, if_pos h2.symm]
   ·rw [if_neg h2, if_neg (fun e => h2 e.symm), if_neg (fun e' => h2 (h ▸ e'))]
  ·rw [if_neg h]
   simp only [getL]
   by_cases h2 : e.1 = k'
   ·rw [if_pos h2, if_neg (fun e' => h (h2.trans e')), if_pos h2]
   ·rw [if_neg h2, ih, if_neg h2]
theorem cnt_bd : ∀ (code : List Ins) (l : Int), 0 ≤ getL l (cntL code) ∧ getL l (cntL code) ≤ code.length := by
 have key : ∀ (code : List Ins) (m : LM) (n : Nat), (∀ l, 0 ≤ getL l m ∧ getL l m ≤ n) → ∀ l, 0 ≤ getL l (code.foldl cntStep m) ∧ getL l (code.foldl cntStep m) ≤ n + code.length := by
  intro code
  induction code with
  | nil => intro m n h l; simpa using h l
  | cons i r ih =>
   intro m n h l
   have h2 : ∀ l, 0 ≤ getL l (cntStep m i) ∧ getL l (cntStep m i) ≤ (n + 1 : Nat) := fun l => by
    unfold cntStep
    split
    ·rw [getL_put]
     split
     ·have := h i.l; omega
     ·have := h l; omega
    ·have := h l; omega
   have h3 := ih _ (n + 1) h2 l
   rw [List.foldl_cons, List.length_cons]
   omega
 intro code l
 have := key code [] 0 (fun l => by simp [getL]) l
 unfold cntL
 omega
/-! ### which instructions may be -/
def badRB (h : Has) (regs : Int) (i : Ins) : Bool := ((h.d && (decide (i.d < 0) || decide (regs ≤ i.d))) || (h.a && (decide (i.a < 0) || decide (regs ≤ i.a)))) || (h.b && (decide (i.b < 0) || decide (regs ≤ i.b)))
def badCB (h : Has) (i : Ins) : Bool := (h.cond && (decide (i.cond < 1) || decide (6 < i.cond))) || (((h.size && !decide (i.size = 1)) && !decide (i.size = 4)) && !decide (i.size = 8))
def badLB (h : Has) (nf : Int) (many : LM) (i : Ins) : Bool := (h.l && !decide (getL i.l many = 1)) || (h.f && (decide (i.f < 0) || decide (nf ≤ i.f)))
def outB (regs a : Int) : Bool := decide (a < 0) || decide (regs ≤ a)
def badAB (h : Has) (regs : Int) (i : Ins) : Bool := h.args && i.args.any (outB regs)
def mostF (k : Int) : Int := if k = 30 then 3 else 4
def parF (p : Prog) (f : Int) : Int := (p.funs.getD f.toNat default).params
def badNB (h : Has) (p : Prog) (i : Ins) : Bool := (h.args && decide (mostF i.kind < i.args.length)) || ((h.args && h.f) && !decide ((i.args.length : Int) = parF p i.f))
def restB (p : Prog) (slots : Int) (i : Ins) : Bool :=
 if i.kind = 16 then decide (1 ≤ i.real) && decide (i.real ≤ 8)
 else if i.kind = 17 ∨ i.kind = 18 then decide (-2147483648 ≤ i.imm) && decide (i.imm ≤ 2147483647)
 else if i.kind = 27 then decide (0 ≤ i.imm) && decide (i.imm ≤ p.data.length + p.zero)
 else if i.kind = 31 ∨ i.kind = 32 then decide (0 ≤ i.imm) && decide (i.imm < slots)
 else true
def mayR (p : Prog) (f : Fn) (many : LM) (i : Ins) : Bool :=
 if isF i.kind = false then false else if badRB (hasF i.kind) f.regs i = true then false else if badCB (hasF i.kind) i = true then false else if badLB (hasF i.kind) p.funs.length many i = true then false
 else if badAB (hasF i.kind) f.regs i = true then false else if badNB (hasF i.kind) p i = true then false else restB p f.slots i
section
variable {p : Prog} {f : Fn} {many : LM} {i : Ins}
theorem may_0 (h : (!isF i.kind) = true) : mayR p f many i = false := by
 rw [Bool.not_eq_true'] at h
 rw [mayR, if_pos h]
theorem may_1 (h0 : (!isF i.kind) = false) (h : badRB (hasF i.kind) f.regs i = true) : mayR p f many i = false := by
 rw [Bool.not_eq_false'] at h0
 rw [mayR, if_neg (by rw [h0]; decide), if_pos h]
theorem may_2 (h0 : (!isF i.kind) = false) (h1 : badRB (hasF i.kind) f.regs i = false) (h : badCB (hasF i.kind) i = true) : mayR p f many i = false := by
 rw [Bool.not_eq_false'] at h0
 rw [mayR, if_neg (by rw [h0]; decide), if_neg (by rw [h1]; decide), if_pos h]
theorem may_3 (h0 : (!isF i.kind) = false) (h1 : badRB (hasF i.kind) f.regs i = false) (h2 : badCB (hasF i.kind) i = false) (h : badLB (hasF i.kind) p.funs.length many i = true) : mayR p f many i = false := by
 rw [Bool.not_eq_false'] at h0
 rw [mayR, if_neg (by rw [h0]; decide), if_neg (by rw [h1]; decide), if_neg (by rw [h2]; decide), if_pos h]
theorem may_4 (h0 : (!isF i.kind) = false) (h1 : badRB (hasF i.kind) f.regs i = false) (h2 : badCB (hasF i.kind) i = false) (h3 : badLB (hasF i.kind) p.funs.length many i = false) (h : badAB (hasF i.kind) f.regs i = true) : mayR p f many i = false := by
 rw [Bool.not_eq_false'] at h0
 rw [mayR, if_neg (by rw [h0]; decide), if_neg (by rw [h1]; decide), if_neg (by rw [h2]; decide), if_neg (by rw [h3]; decide), if_pos h]
theorem may_5 (h0 : (!isF i.kind) = false) (h1 : badRB (hasF i.kind) f.regs i = false) (h2 : badCB (hasF i.kind) i = false) (h3 : badLB (hasF i.kind) p.funs.length many i = false) (h4 : badAB (hasF i.kind) f.regs i = false) (h : badNB (hasF i.kind) p i = true) : mayR p f many i = false := by
 rw [Bool.not_eq_false'] at h0
 rw [mayR, if_neg (by rw [h0]; decide), if_neg (by rw [h1]; decide), if_neg (by rw [h2]; decide), if_neg (by rw [h3]; decide), if_neg (by rw [h4]; decide), if_pos h]
theorem may_6 (h0 : (!isF i.kind) = false) (h1 : badRB (hasF i.kind) f.regs i = false) (h2 : badCB (hasF i.kind) i = false) (h3 : badLB (hasF i.kind) p.funs.length many i = false) (h4 : badAB (hasF i.kind) f.regs i = false) (h : badNB (hasF i.kind) p i = false) : mayR p f many i = restB p f.slots i := by
 rw [Bool.not_eq_false'] at h0
 rw [mayR, if_neg (by rw [h0]; decide), if_neg (by rw [h1]; decide), if_neg (by rw [h2]; decide), if_neg (by rw [h3]; decide), if_neg (by rw [h4]; decide), if_neg (by rw [h]; decide)]
end
theorem lb_lt {h : Has} {n : Nat} {many : LM} {i : Ins} (hb : badLB h n many i = false) (hf : h.f = true) : 0 ≤ i.f ∧ i.f.toNat < n := by
 unfold badLB at hb
 rw [hf, Bool.true_and, Bool.or_eq_false_iff, Bool.or_eq_false_iff, decide_eq_false_iff_not, decide_eq_false_iff_not] at hb
 omega
def badPB (p : Prog) : Bool := (((decide ((p.funs.length : Int) = 0) || !decide ((p.funs.getD 0 default).params = 0)) || decide (p.zero < 0)) || decide (268435456 < p.zero)) || decide (268435456 - p.zero < p.data.length)
def sumC (p : Prog) (j : Nat) : Nat := ((p.funs.take j).map fun f => f.code.length).sum
theorem sumC_succ {p : Prog} {j : Nat} (h : j < p.funs.length) : sumC p (j + 1) = sumC p j + (p.funs.getD j default).code.length := by
 unfold sumC
 rw [take_gd h]
 simp
theorem sumC_le (p : Prog) (j : Nat) : sumC p j ≤ (p.funs.map fun f => f.code.length).sum := by
 unfold sumC
 conv => rhs; rw [← List.take_append_drop j p.funs]
 rw [List.map_append, List.sum_append]
 omega
def badFB (f : Fn) : Bool := ((((((decide (f.params < 0) || decide (4 < f.params)) || decide (f.regs < f.params)) || decide (65536 < f.regs)) || decide (f.slots < 0)) || decide (1048576 < f.slots)) || decide ((f.code.length : Int) = 0))
def lastK (f : Fn) : Int := (f.code.getD (f.code.length - 1) default).kind
def funR (p : Prog) (f : Fn) : Bool := !badFB f && endsF (lastK f) && f.code.all (mayR p f (cntL f.code))
def checkR (p : Prog) : Int :=
 if badPB p = true then 130 else if 4194304 < sumC p p.funs.length then 130 else if p.funs.all (funR p) then 0 else 130
theorem all_of {α : Type} [Inhabited α] {q : α → Bool} {l : List α} (h : ∀ k, k < l.length → q (l.getD k default) = true) : l.all q = true := by
 rw [List.all_eq_true]
 intro x hx
 obtain ⟨k, hk, rfl⟩ := List.mem_iff_getElem.1 hx
 rw [← gd hk]; exact h k hk
theorem not_all {α : Type} [Inhabited α] {q : α → Bool} {l : List α} {k : Nat} (hk : k < l.length) (h : q (l.getD k default) = false) : l.all q = false := by
 rw [List.all_eq_false]
 exact ⟨l[k], List.getElem_mem hk, by rw [← gd hk, h]; decide⟩
theorem any_at {α : Type} [Inhabited α] {q : α → Bool} {l : List α} {k : Nat} (hk : k < l.length) (h : q (l.getD k default) = true) : l.any q = true := by
 rw [List.any_eq_true]
 exact ⟨l[k], List.getElem_mem hk, by rw [← gd hk, h]⟩
theorem not_any {α : Type} [Inhabited α] {q : α → Bool} {l : List α} (h : ∀ k, k < l.length → q (l.getD k default) = false) : l.any q = false := by
 rw [List.any_eq_false]
 intro x hx
 obtain ⟨k, hk, rfl⟩ := List.mem_iff_getElem.1 hx
 rw [← gd hk, h k hk]; decide
structure InsIn (i : Ins) : Prop where
 imm0 : -9223372036854775808 ≤ i.imm
 imm1 : i.imm ≤ 9223372036854775807
 args : i.args.length ≤ 1048576
structure FnIn (f : Fn) : Prop where
 regs0 : -9223372036854775808 ≤ f.regs
 regs1 : f.regs ≤ 9223372036854775807
 code : f.code.length ≤ 1048576
 ins : ∀ i ∈ f.code, InsIn i
structure ProgIn (p : Prog) : Prop where
 funs : p.funs.length ≤ 1048576
 data : p.data.length ≤ 1048576
 fn : ∀ f ∈ p.funs, FnIn f
 all : (p.funs.map fun f => f.code.length).sum ≤ 1048576
 zero0 : -9223372036854775808 ≤ p.zero
 zero1 : p.zero ≤ 9223372036854775807
theorem getD_mem {α : Type} [Inhabited α] {l : List α} {j : Nat} (h : j < l.length) : l.getD j default ∈ l := by
 rw [gd h]; exact List.getElem_mem h
section
variable {p : Prog}
theorem check_0 (h : badPB p = true) : checkR p = 130 := by rw [checkR, if_pos h]
theorem check_bad {k : Nat} (h0 : badPB p = false) (hs : ¬ 4194304 < sumC p p.funs.length) (hk : k < p.funs.length) (h : funR p (p.funs.getD k default) = false) : checkR p = 130 := by
 rw [checkR, if_neg (by rw [h0]; decide), if_neg hs, if_neg (by rw [not_all hk h]; decide)]
theorem check_ok (h0 : badPB p = false) (hs : ¬ 4194304 < sumC p p.funs.length) (h : ∀ k, k < p.funs.length → funR p (p.funs.getD k default) = true) : checkR p = 0 := by
 rw [checkR, if_neg (by rw [h0]; decide), if_neg hs, if_pos (all_of h)]
theorem pb_zero (h0 : badPB p = false) : 0 ≤ p.zero ∧ p.zero ≤ 268435456 := by
 unfold badPB at h0
 simp only [Bool.or_eq_false_iff, decide_eq_false_iff_not] at h0
 omega
theorem fun_1 {f : Fn} (h : badFB f = true) : funR p f = false := by rw [funR, h]; rfl
theorem fun_2 {f : Fn} (h : endsF (lastK f) = false) : funR p f = false := by rw [funR, h, Bool.and_false]; rfl
theorem fun_3 {f : Fn} {k : Nat} (hk : k < f.code.length) (h : mayR p f (cntL f.code) (f.code.getD k default) = false) : funR p f = false := by rw [funR, not_all hk h, Bool.and_false]
theorem fun_ok {f : Fn} (h1 : badFB f = false) (h2 : endsF (lastK f) = true) (h3 : ∀ k, k < f.code.length → mayR p f (cntL f.code) (f.code.getD k default) = true) : funR p f = true := by rw [funR, h1, h2, all_of h3]; rfl
theorem fb_code {f : Fn} (h : badFB f = false) : 0 < f.code.length := by
 unfold badFB at h
 simp only [Bool.or_eq_false_iff, decide_eq_false_iff_not] at h
 omega
end

theorem Of36 (k : Int) :
    ACalls Tryz.prog 56 [zi k] [] (fun t S => t = .tup [.agg (hasCells (hasF k)), bv (isF k)]) := by
 refine ai Tryz.func56 Tryz.ntmps56 fun X w0 => ?_
 refine rs ?_
 refine bx fun b2 => ?_
 refine y1 ?_
 refine nl (sq (bk (rs (y15 (nl ?_)))))
 refine cq (fun h0t => ?_) fun h0f => ?_
 ·try replace h0t := sm h0t
  refine rs (y3 (nl ?_))
  refine rt ?_
  unfold hasF isF ofF
  rw [if_pos (by omega)]
  rfl
 try replace h0f := sm h0f
 refine rs (y3 (nl ?_))
 refine cq (fun h1t => ?_) fun h1f => ?_
 ·try replace h1t := sm h1t
  refine rs (y3 (nl ?_))
  refine rt ?_
  unfold hasF isF ofF
  rw [if_neg (by omega), if_pos (by omega)]
  rfl
 try replace h1f := sm h1f
 refine rs (y11 (nl ?_))
 refine cq (fun h2t => ?_) fun h2f => ?_
 ·try replace h2t := sm h2t
  refine rs (y3 (nl ?_))
  refine rt ?_
  unfold hasF isF ofF
  repeat rewrite [if_neg (by omega)]
  rw [if_pos (by omega)]
  rfl
 try replace h2f := sm h2f
 refine rs (y3 (nl ?_))
 refine cq (fun h3t => ?_) fun h3f => ?_
 ·try replace h3t := sm h3t
  refine rs (y3 (nl ?_))
  refine rt ?_
  unfold hasF isF ofF
  repeat rewrite [if_neg (by omega)]
  rw [if_pos (by omega)]
  rfl
 try replace h3f := sm h3f
 refine rs (y3 (nl ?_))
 refine cq (fun h4t => ?_) fun h4f => ?_
 ·try replace h4t := sm h4t
  refine rs (y3 (nl ?_))
  refine rt ?_
  unfold hasF isF ofF
  repeat rewrite [if_neg (by omega)]
  rw [if_pos (by omega)]
  rfl
 try replace h4f := sm h4f
 refine rs (y3 (nl ?_))
 refine cq (fun h5t => ?_) fun h5f => ?_
 ·try replace h5t := sm h5t
  refine rs (y3 (nl ?_))
  refine rt ?_
  unfold hasF isF ofF
  repeat rewrite [if_neg (by omega)]
  rw [if_pos (by omega)]
  rfl
 try replace h5f := sm h5f
 refine rs (y7 (nl ?_))
 refine cq (fun h6t => ?_) fun h6f => ?_
 ·try replace h6t := sm h6t
  refine rs (y3 (nl ?_))
  refine rt ?_
  unfold hasF isF ofF
  repeat rewrite [if_neg (by omega)]
  rw [if_pos (by omega)]
  rfl
 try replace h6f := sm h6f
 refine rs (y3 (nl ?_))
 refine cq (fun h7t => ?_) fun h7f => ?_
 ·try replace h7t := sm h7t
  refine rs (y3 (nl ?_))
  refine rt ?_
  unfold hasF isF ofF
  repeat rewrite [if_neg (by omega)]
  rw [if_pos (by omega)]
  rfl
 try replace h7f := sm h7f
 refine rs (y3 (nl ?_))
 refine cq (fun h8t => ?_) fun h8f => ?_
 ·try replace h8t := sm h8t
  refine rs (y3 (nl ?_))
  refine rt ?_
  unfold hasF isF ofF
  repeat rewrite [if_neg (by omega)]
  rw [if_pos (by omega)]
  rfl
 try replace h8f := sm h8f
 refine rs (y3 (nl ?_))
 refine cq (fun h9t => ?_) fun h9f => ?_
 ·try replace h9t := sm h9t
  refine rs (y3 (nl ?_))
  refine rt ?_
  unfold hasF isF ofF
  repeat rewrite [if_neg (by omega)]
  rw [if_pos (by omega)]
  rfl
 try replace h9f := sm h9f
 refine rs (y3 (nl ?_))
 refine cq (fun h10t => ?_) fun h10f => ?_
 ·try replace h10t := sm h10t
  refine rs (y3 (nl ?_))
  refine rt ?_
  unfold hasF isF ofF
  repeat rewrite [if_neg (by omega)]
  rw [if_pos (by omega)]
  rfl
 try replace h10f := sm h10f
 refine rs (y3 (nl ?_))
 refine cq (fun h11t => ?_) fun h11f => ?_
 ·try replace h11t := sm h11t
  refine rs (y3 (nl ?_))
  refine rt ?_
  unfold hasF isF ofF
  repeat rewrite [if_neg (by omega)]
  rw [if_pos (by omega)]
  rfl
 try replace h11f := sm h11f
 refine rs (y7 (nl ?_))
 refine cq (fun h12t => ?_) fun h12f => ?_
 ·try replace h12t := sm h12t
  refine rs (y3 (nl ?_))
  refine rt ?_
  unfold hasF isF ofF
  repeat rewrite [if_neg (by omega)]
  rw [if_pos (by omega)]
  rfl
 try replace h12f := sm h12f
 refine rs (y3 (nl ?_))
 refine cq (fun h13t => ?_) fun h13f => ?_
 ·try replace h13t := sm h13t
  refine rs (y3 (nl ?_))
  refine rt ?_
  unfold hasF isF ofF
  repeat rewrite [if_neg (by omega)]
  rw [if_pos (by omega)]
  rfl
 try replace h13f := sm h13f
 refine rs (y3 (nl ?_))
 refine cq (fun h14t => ?_) fun h14f => ?_
 ·try replace h14t := sm h14t
  refine rs (y3 (nl ?_))
  refine rt ?_
  unfold hasF isF ofF
  repeat rewrite [if_neg (by omega)]
  rw [if_pos (by omega)]
  rfl
 try replace h14f := sm h14f
 refine sp (rs (y3 (nl ?_)))
 refine rt ?_
 unfold hasF isF ofF
 rw [if_neg (by omega), if_neg (by omega), if_neg (by omega), if_neg (by omega), if_neg (by omega), if_neg (by omega), if_neg (by omega), if_neg (by omega), if_neg (by omega), if_neg (by omega), if_neg (by omega), if_neg (by omega), if_neg (by omega), if_neg (by omega), if_neg (by omega)]
 rfl

theorem fields57 (k : Int) :
    ACalls Tryz.prog 67 [zi k] [] (fun t S => t = .tup [.agg (hasCells (hasF k)), bv (isF k)]) := by
 refine ai Tryz.func67 Tryz.ntmps67 fun X w0 => ?_
 refine rs ?_
 refine bx fun b2 => ?_
 refine y1 ?_
 refine nl (sq (rs (y1 ?_)))
 refine nl (bk (sq (rs (y2 (nl ?_)))))
 refine cq (fun h0t => ?_) fun _ => ?_
 ·refine sp ?_
  refine ct fun _ => ?_
  refine rs (y3 (nl ?_))
  refine rt ?_
  rw [h0t]; rfl
 refine rs (y2 (nl ?_))
 refine cq (fun h2t => ?_) fun _ => ?_
 ·refine sp ?_
  refine ct fun _ => ?_
  refine rs (y3 (nl ?_))
  refine rt ?_
  rw [h2t]; rfl
 refine rs (y2 (nl ?_))
 refine cq (fun h4t => ?_) fun _ => ?_
 ·refine sp ?_
  refine ct fun _ => ?_
  refine rs (y3 (nl ?_))
  refine rt ?_
  rw [h4t]; rfl
 refine rg (y2 (nl ?_))
 refine cq (fun h6t => ?_) fun _ => ?_
 ·refine rs (y3 (nl ?_))
  refine rt ?_
  rw [h6t]; rfl
 refine rs (y2 (nl ?_))
 refine cq (fun h7t => ?_) fun _ => ?_
 ·refine rs (y3 (nl ?_))
  refine rt ?_
  rw [h7t]; rfl
 refine sq (rs (y2 (nl ?_)))
 refine cq (fun h8t => ?_) fun _ => ?_
 ·refine sp ?_
  refine ct fun _ => ?_
  refine rs (y3 (nl ?_))
  refine rt ?_
  rw [h8t]; rfl
 refine rs (y2 (nl ?_))
 refine cq (fun h10t => ?_) fun _ => ?_
 ·refine sp ?_
  refine ct fun _ => ?_
  refine rs (y3 (nl ?_))
  refine rt ?_
  rw [h10t]; rfl
 refine rs (y2 (nl ?_))
 refine cq (fun h12t => ?_) fun _ => ?_
 ·refine sp ?_
  refine ct fun _ => ?_
  refine rs (y3 (nl ?_))
  refine rt ?_
  rw [h12t]; rfl
 refine rs (y2 (nl ?_))
 refine cq (fun h14t => ?_) fun _ => ?_
 ·refine sp ?_
  refine ct fun _ => ?_
  refine rs (y3 (nl ?_))
  refine rt ?_
  rw [h14t]; rfl
 refine rs (y2 (nl ?_))
 refine cq (fun h16t => ?_) fun _ => ?_
 ·refine sp ?_
  refine ct fun _ => ?_
  refine rs (y3 (nl ?_))
  refine rt ?_
  rw [h16t]; rfl
 refine rs (y2 (nl ?_))
 refine cq (fun h18t => ?_) fun _ => ?_
 ·refine sp ?_
  refine ct fun _ => ?_
  refine rs (y3 (nl ?_))
  refine rt ?_
  rw [h18t]; rfl
 refine rs (y2 (nl ?_))
 refine cq (fun h20t => ?_) fun _ => ?_
 ·refine sp ?_
  refine ct fun _ => ?_
  refine rs (y3 (nl ?_))
  refine rt ?_
  rw [h20t]; rfl
 refine rs (y2 (nl ?_))
 refine cq (fun h22t => ?_) fun _ => ?_
 ·refine sp ?_
  refine ct fun _ => ?_
  refine rs (y3 (nl ?_))
  refine rt ?_
  rw [h22t]; rfl
 refine rs (y2 (nl ?_))
 refine cq (fun h24t => ?_) fun _ => ?_
 ·refine sp ?_
  refine ct fun _ => ?_
  refine rs (y3 (nl ?_))
  refine rt ?_
  rw [h24t]; rfl
 refine rs (y2 (nl ?_))
 refine cq (fun h26t => ?_) fun _ => ?_
 ·refine sp ?_
  refine ct fun _ => ?_
  refine rs (y3 (nl ?_))
  refine rt ?_
  rw [h26t]; rfl
 refine rs (y2 (nl ?_))
 refine cq (fun h28t => ?_) fun _ => ?_
 ·refine sp ?_
  refine ct fun _ => ?_
  refine rs (y3 (nl ?_))
  refine rt ?_
  rw [h28t]; rfl
 refine rs (y2 (nl ?_))
 refine cq (fun h30t => ?_) fun _ => ?_
 ·refine sp ?_
  refine ct fun _ => ?_
  refine rs (y3 (nl ?_))
  refine rt ?_
  rw [h30t]; rfl
 refine rg (y2 (nl ?_))
 refine cq (fun h32t => ?_) fun _ => ?_
 ·refine rs (y3 (nl ?_))
  refine rt ?_
  rw [h32t]; rfl
 refine rs (y2 (nl ?_))
 refine cq (fun h33t => ?_) fun _ => ?_
 ·refine rs (y3 (nl ?_))
  refine rt ?_
  rw [h33t]; rfl
 refine rs (y2 (nl ?_))
 refine cq (fun h34t => ?_) fun _ => ?_
 ·refine rs (y3 (nl ?_))
  refine rt ?_
  rw [h34t]; rfl
 refine rs (y2 (nl ?_))
 refine cq (fun h35t => ?_) fun _ => ?_
 ·refine rs (y3 (nl ?_))
  refine rt ?_
  rw [h35t]; rfl
 refine sq (rs (y2 (nl ?_)))
 refine cq (fun h36t => ?_) fun _ => ?_
 ·refine sp ?_
  refine ct fun _ => ?_
  refine rs (y3 (nl ?_))
  refine rt ?_
  rw [h36t]; rfl
 refine rg (y2 (nl ?_))
 refine cq (fun h38t => ?_) fun _ => ?_
 ·refine rs (y3 (nl ?_))
  refine rt ?_
  rw [h38t]; rfl
 refine rs (y2 (nl ?_))
 refine cq (fun h39t => ?_) fun _ => ?_
 ·refine rs (y3 (nl ?_))
  refine rt ?_
  rw [h39t]; rfl
 refine rs (y2 (nl ?_))
 refine cq (fun h40t => ?_) fun _ => ?_
 ·refine rs (y3 (nl ?_))
  refine rt ?_
  rw [h40t]; rfl
 refine rs (y2 (nl ?_))
 refine cq (fun h41t => ?_) fun _ => ?_
 ·refine rs (y3 (nl ?_))
  refine rt ?_
  rw [h41t]; rfl
 refine rs (y2 (nl ?_))
 refine cq (fun h42t => ?_) fun _ => ?_
 ·refine rs (y3 (nl ?_))
  refine rt ?_
  rw [h42t]; rfl
 refine rs (y2 (nl ?_))
 refine cq (fun h43t => ?_) fun _ => ?_
 ·refine rs (y3 (nl ?_))
  refine rt ?_
  rw [h43t]; rfl
 refine sq (rs (y2 (nl ?_)))
 refine cq (fun h44t => ?_) fun _ => ?_
 ·refine sp ?_
  refine ct fun _ => ?_
  refine rs (y3 (nl ?_))
  refine rt ?_
  rw [h44t]; rfl
 refine rg (y2 (nl ?_))
 refine cq (fun h46t => ?_) fun _ => ?_
 ·refine rs (y3 (nl ?_))
  refine rt ?_
  rw [h46t]; rfl
 refine rs (y2 (nl ?_))
 refine cq (fun h47t => ?_) fun _ => ?_
 ·refine rs (y3 (nl ?_))
  refine rt ?_
  rw [h47t]; rfl
 refine rs (y2 (nl ?_))
 refine cq (fun h48t => ?_) fun _ => ?_
 ·refine rs (y3 (nl ?_))
  refine rt ?_
  rw [h48t]; rfl
 refine sp (rs (y3 (nl ?_)))
 refine rt ?_
 unfold hasF isF ofF
 rw [if_neg (by omega), if_neg (by omega), if_neg (by omega), if_neg (by omega), if_neg (by omega), if_neg (by omega), if_neg (by omega), if_neg (by omega), if_neg (by omega), if_neg (by omega), if_neg (by omega), if_neg (by omega), if_neg (by omega), if_neg (by omega), if_neg (by omega)]
 rfl

theorem Ends21 (k : Int) :
    ACalls Tryz.prog 30 [zi k] [] (fun t S => t = bv (endsF k)) := by
 refine ai Tryz.func30 Tryz.ntmps30 fun X w0 => ?_
 refine rs (y1 ?_)
 refine nl (rs (y15 (nl ?_)))
 refine rt ?_
 rfl

theorem ends34 (k : Int) :
    ACalls Tryz.prog 76 [zi k] [] (fun t S => t = bv (endsF k)) := by
 refine ai Tryz.func76 Tryz.ntmps76 fun X w0 => ?_
 refine rs (y1 ?_)
 refine nl (rs (y15 (nl ?_)))
 refine rt ?_
 rfl

theorem Labels22 (f : Fn) (hn : f.code.length ≤ 1048576) :
    ACalls Tryz.prog 31 [.agg (fnCells f)] [] (fun t S => ∃ m w, t = .tup [.v (.map (some m)), .v (.map (some w))] ∧ S = [.map m (lmT (cntL f.code)), .map w (lmT (whL f.code))]) := by
 refine ai Tryz.func31 Tryz.ntmps31 fun X w0 => ?_
 refine rs ?_
 refine bx fun b1 => ?_
 refine y2 ?_
 refine nl (rs ?_)
 refine AWL.makeMapOp rfl rfl (B rfl) rfl (fun b7 => ?_)
 refine y1 ?_
 refine nl (rs ?_)
 refine AWL.makeMapOp rfl rfl (B rfl) rfl (fun b8 => ?_)
 refine y1 (nl ?_)
 refine AW.eqS (S' := [.box b1 86 (fnCells f), .map b7 (lmT []), .map b8 (lmT [])]) rfl ?_
 refine sq (rs (y1 ?_))
 refine nl (bk ?_)
 refine lp1 (fun (j : Nat) => [(1, true, pv b1), (4, true, .v (.map (some b7))), (5, true, .v (.map (some b8))), (6, true, zv j)]) (fun (j : Nat) => [.box b1 86 (fnCells f), .map b7 (lmT (cntL (f.code.take j))), .map b8 (lmT (whT f.code j))]) (fun (j : Nat) => j ≤ f.code.length) (fun (j : Nat) => f.code.length - j) 0 ?_ ?_
 ·exact Nat.zero_le _
 intro j hinv
 refine sq (rs (y5 (nl ?_)))
 refine cq (fun _ => ?_) fun _ => ?_
 ·have hj : j < f.code.length := by omega
  refine sp (sq (bk (rs (y7 (nl ?_)))))
  refine cq (fun h1t => ?_) fun h1f => ?_
  ·have hcb := cnt_bd (f.code.take j) (f.code.getD j default).l
   rw [List.length_take] at hcb
   refine rs (y7 ?_)
   refine Y1 (Yv.eqT (Yv.lookup1 (k := .i _ _) (i := 1) rfl mp_87 rfl eV eV rfl (lm_good _ _ rfl)) (get_lm _ _)) ?_
   refine y1 ?_
   refine AWL.mapUpd (k := .i _ _) (i := 1) rfl rfl (.inl rfl) mp_87 rfl (E rfl rfl) (E rfl rfl) (E rfl rfl) rfl rfl (lm_good _ _ rfl) ?_
   refine nl (rg (y8 ?_))
   refine AWL.mapUpd (k := .i _ _) (i := 2) rfl rfl (.inl rfl) mp_87 rfl (E rfl rfl) (E rfl rfl) (E rfl rfl) rfl rfl (lm_good _ _ rfl) ?_
   refine nl (rg (y3 (nl ?_)))
   refine ⟨j + 1, by omega, by omega, sbZ, ?_⟩
   rw [cnt_succ hj, wh_succ hj, cntStep, if_pos h1t, whStep, if_pos h1t, ← put_lm, ← put_lm]
   rfl
  refine sp (rg (y3 (nl ?_)))
  refine ⟨j + 1, by omega, by omega, sbZ, ?_⟩
  rw [cnt_succ hj, wh_succ hj, cntStep, if_neg h1f, whStep, if_neg h1f]
 obtain rfl : j = f.code.length := by omega
 rw [List.take_length, wh_all (Nat.le_refl _)]
 refine xt ?_
 refine AW.dropAt 0 ?_
 refine rs (y4 (nl ?_))
 refine rt ?_
 exact ⟨b7, b8, rfl, rfl⟩


theorem may23_ (p : Prog) (f : Fn) (many : LM) (i : Ins) (m : Nat) (hp : ProgIn p) (hi : InsIn i) (hz : 0 ≤ p.zero ∧ p.zero ≤ 268435456) :
    ACalls Tryz.prog 32 [.agg (progCells p), .agg (fnCells f), .v (.map (some m)), .agg (insCells i)] [.map m (lmT many)] (fun t S => t = bv (mayR p f many i) ∧ .map m (lmT many) ∈ S) := by
 have hpf := hp.funs
 have hpd := hp.data
 have hal := hi.args
 refine ai Tryz.func32 Tryz.ntmps32 fun X w0 => ?_
 refine rs ?_
 refine bx fun b4 => ?_
 refine bx fun b5 => ?_
 refine bx fun b7 => ?_
 refine y1 (nl ?_)
 refine AW.perm (S' := [.box b4 25 (progCells p), .box b5 86 (fnCells f), .box b7 90 (insCells i), .map m (lmT many)]) (List.perm_append_comm (l₁ := ([.box b4 25 (progCells p), .box b5 86 (fnCells f), .box b7 90 (insCells i)] : St)) (l₂ := [.map m (lmT many)])) ?_
 refine rs (y2 ?_)
 refine kt (Of36 i.kind) ?_
 rintro t16 S16 rfl
 refine y3 ?_
 refine bx fun b9 => ?_
 refine y2 (nl ?_)
 refine AW.eqS (S' := [.box b4 25 (progCells p), .box b5 86 (fnCells f), .box b7 90 (insCells i), .map m (lmT many), .box b9 131 (hasCells (hasF i.kind))]) rfl ?_
 refine sq (rs (y2 (nl ?_)))
 refine cq (fun h0t => ?_) fun h0f => ?_
 ·refine rs (y1 (nl ?_))
  refine rt ?_
  refine ⟨by show bv _ = bv _; rw [may_0 h0t], by simp⟩
 refine sp (sq (rs (y24 ?_)))
 refine y22 (nl ?_)
 refine cq (fun h1t => ?_) fun h1f => ?_
 ·have h1tr := h1t
  try replace h1t := odt h1t
  refine rs (y1 (nl ?_))
  refine rt ?_
  refine ⟨by show bv _ = bv _; rw [may_1 h0f h1t], by simp⟩
 have h1fr := h1f
 try replace h1f := odf h1f
 refine sp (sq (rs (y24 ?_)))
 refine y7 (nl ?_)
 refine cq (fun h2t => ?_) fun h2f => ?_
 ·have h2tr := h2t
  try replace h2t := odt h2t
  refine rs (y1 (nl ?_))
  refine rt ?_
  refine ⟨by show bv _ = bv _; rw [may_2 h0f h1f h2t], by simp⟩
 have h2fr := h2f
 try replace h2f := odf h2f
 refine sp (sq (rs (y6 ?_)))
 refine gT (Yv.eqT (Yv.lookup1 (k := .i _ _) (i := 3) rfl mp_87 rfl (Eg rfl rfl id) (Eg rfl rfl id) rfl (lm_good _ _ rfl)) (get_lm _ _)) ?_
 refine y19 (nl ?_)
 refine cq (fun h3t => ?_) fun h3f => ?_
 ·have h3tr := h3t
  try replace h3t := odt h3t
  refine rs (y1 (nl ?_))
  refine rt ?_
  refine ⟨by show bv _ = bv _; rw [may_3 h0f h1f h2f h3t], by simp⟩
 have h3fr := h3f
 try replace h3f := odf h3f
 refine sp (sq (rs (y1 ?_)))
 refine nl (bk ?_)
 refine lp1 (fun (j : Nat) => [(2, true, .v (.map (some m))), (4, true, pv b4), (5, true, pv b5), (7, true, pv b7), (9, true, pv b9), (11, true, zv j)]) (fun (j : Nat) => [.box b4 25 (progCells p), .box b5 86 (fnCells f), .box b7 90 (insCells i), .map m (lmT many), .box b9 131 (hasCells (hasF i.kind))]) (fun (j : Nat) => j ≤ i.args.length ∧ ∀ q, q < j → outB f.regs (i.args.getD q default) = false) (fun (j : Nat) => i.args.length - j) 0 ?_ ?_
 ·exact ⟨Nat.zero_le _, fun q hq => absurd hq (Nat.not_lt_zero q)⟩
 intro j hinv
 obtain ⟨hj, hout⟩ := hinv
 refine sq (rs (y9 (nl ?_)))
 refine cq (fun h4t => ?_) fun h4f => ?_
 ·have h4tr := h4t
  try replace h4t := odt h4t
  rw [Bool.and_eq_true] at h4t
  have hj2 : j < i.args.length := by have := odt h4t.1; omega
  refine sp (sq (bk (rq (q10 ?_))))
  refine kF (Yv.indexSl rfl ss_88 (B rfl) (Eg rfl rfl id) (Eg rfl rfl id) (fun hg => ⟨rfl, (by first | omega | (simp only [len_code, len_funs, len_args, len_data]; omega) | (simp only [len_code, len_funs, len_args, len_data]; simp only [Bool.and_eq_true, Bool.or_eq_false_iff, Bool.not_eq_true', Bool.not_eq_false', decide_eq_true_eq, decide_eq_false_iff_not] at hg; omega))⟩)) ?_
  refine q5 (nq ?_)
  refine cq (fun h5t => ?_) fun h5f => ?_
  ·have h5tr := h5t
   try replace h5t := odt h5t
   refine rs (y1 (nl ?_))
   refine rt ?_
   refine ⟨by show bv _ = bv _; rw [may_4 h0f h1f h2f h3f (by unfold badAB; rw [show (hasF i.kind).args = true from h4t.2, any_at hj2 h5t]; rfl)], by simp⟩
  have h5fr := h5f
  try replace h5f := odf h5f
  refine sp (rg (y3 (nl ?_)))
  refine ⟨j + 1, ⟨by omega, fun q hq => ?_⟩, by omega, sbZ, rfl⟩
  rcases Nat.lt_or_ge q j with h | h
  ·exact hout q h
  obtain rfl : q = j := by omega
  exact h5f
 have h4fr := h4f
 try replace h4f := odf h4f
 have hA : badAB (hasF i.kind) f.regs i = false := by
  unfold badAB
  rw [Bool.and_eq_false_iff] at h4f
  rcases h4f with h | h
  ·rw [not_any (fun k hk => hout k (by have := odf h; omega)), Bool.and_false]
  ·rw [show (hasF i.kind).args = false from h, Bool.false_and]
 refine xt (rs (y1 (nl ?_)))
 refine AW.mid (α := Unit) (fun _ => [(2, true, .v (.map (some m))), (4, true, pv b4), (5, true, pv b5), (7, true, pv b7), (9, true, pv b9), (12, true, .v (.int .i64 (mostF i.kind)))]) (fun _ => [.box b4 25 (progCells p), .box b5 86 (fnCells f), .box b7 90 (insCells i), .map m (lmT many), .box b9 131 (hasCells (hasF i.kind))]) (fun _ => True) ?_ ?_
 ·refine rs (y3 (nl ?_))
  refine cq (fun h6t => ?_) fun h6f => ?_
  ·refine rg (y1 (nl ?_))
   refine ⟨(), trivial, (su (su (su (su (su (Sub.cons rfl (by rw [mostF, if_pos h6t]; rfl) Sub.nil)))))), rfl⟩
  refine sp ?_
  refine ⟨(), trivial, (su (su (su (su (su (Sub.cons rfl (by rw [mostF, if_neg h6f]; rfl) Sub.nil)))))), rfl⟩
 rintro _ hmid
 refine sq (rq (q24 ?_))
 refine kT (Yv.indexSl (j := i.f.toNat) rfl ss_22 (B rfl) (Eg rfl rfl id) (Eg rfl rfl id) (fun hg => ⟨(Int.toNat_of_nonneg (lb_lt h3f (by simp only [Bool.and_eq_true] at hg; exact hg.2.2)).1).symm, by rw [len_funs]; have := (lb_lt h3f (by simp only [Bool.and_eq_true] at hg; exact hg.2.2)).2; omega⟩)) ?_
 refine q1 ?_
 refine kT (Yv.loadRp rfl ag_3 (Eg rfl rfl id) (fun hg => fpar_at (lb_lt h3f (by simp only [Bool.and_eq_true] at hg; exact hg.2.2)).2)) ?_
 refine q3 (nq ?_)
 refine cq (fun h7t => ?_) fun h7f => ?_
 ·have h7tr := h7t
  try replace h7t := odt h7t
  refine rs (y1 (nl ?_))
  refine rt ?_
  refine ⟨by show bv _ = bv _; rw [may_5 h0f h1f h2f h3f hA h7t], by simp⟩
 have h7fr := h7f
 try replace h7f := odf h7f
 refine sp (sq (rs (y2 ?_)))
 refine nl (bk (rs (y2 (nl ?_))))
 refine cq (fun _ => ?_) fun _ => ?_
 ·refine rs (y9 (nl ?_))
  refine rt ?_
  refine ⟨?_, by simp⟩
  show bv _ = bv _
  rw [may_6 h0f h1f h2f h3f hA h7f]
  unfold restB
  rw [if_pos (by omega)]
 refine sq (rs (y2 (nl ?_)))
 refine cq (fun _ => ?_) fun _ => ?_
 ·refine sp ?_
  refine ct fun _ => ?_
  refine rs (y9 (nl ?_))
  refine rt ?_
  refine ⟨?_, by simp⟩
  show bv _ = bv _
  rw [may_6 h0f h1f h2f h3f hA h7f]
  unfold restB
  rw [if_neg (by omega), if_pos (by omega)]
 refine rg (y2 (nl ?_))
 refine cq (fun _ => ?_) fun _ => ?_
 ·refine rs (y9 (nl ?_))
  refine rt ?_
  refine ⟨?_, by simp⟩
  show bv _ = bv _
  rw [may_6 h0f h1f h2f h3f hA h7f]
  unfold restB
  rw [if_neg (by omega), if_pos (by omega)]
 refine rs (y2 (nl ?_))
 refine cq (fun _ => ?_) fun _ => ?_
 ·refine rs (y11 ?_)
  refine gT (Yv.addN_i64 rfl (Eg rfl rfl id) (Eg rfl rfl id) (fun hg => by first | omega | (simp only [Bool.and_eq_true, Bool.or_eq_false_iff, Bool.not_eq_true', Bool.not_eq_false', decide_eq_true_eq, decide_eq_false_iff_not] at hg; omega))) ?_
  refine y3 (nl ?_)
  refine rt ?_
  refine ⟨?_, by simp⟩
  show bv _ = bv _
  rw [may_6 h0f h1f h2f h3f hA h7f]
  unfold restB
  repeat rewrite [if_neg (by omega)]
  rw [if_pos (by omega)]
 refine sq (rs (y2 (nl ?_)))
 refine cq (fun _ => ?_) fun _ => ?_
 ·refine sp ?_
  refine ct fun _ => ?_
  refine rs (y11 (nl ?_))
  refine rt ?_
  refine ⟨?_, by simp⟩
  show bv _ = bv _
  rw [may_6 h0f h1f h2f h3f hA h7f]
  unfold restB
  repeat rewrite [if_neg (by omega)]
  rw [if_pos (by omega)]
 refine rg (y2 (nl ?_))
 refine cq (fun _ => ?_) fun _ => ?_
 ·refine rs (y11 (nl ?_))
  refine rt ?_
  refine ⟨?_, by simp⟩
  show bv _ = bv _
  rw [may_6 h0f h1f h2f h3f hA h7f]
  unfold restB
  repeat rewrite [if_neg (by omega)]
  rw [if_pos (by omega)]
 refine sp (rs (y1 (nl ?_)))
 refine rt ?_
 refine ⟨?_, by simp⟩
 show bv _ = bv _
 rw [may_6 h0f h1f h2f h3f hA h7f]
 unfold restB
 rw [if_neg (by omega), if_neg (by omega), if_neg (by omega), if_neg (by omega)]

theorem may23 (p : Prog) (f : Fn) (many : LM) (i : Ins) (m : Nat) (hp : ProgIn p) (hi : InsIn i) (hz : 0 ≤ p.zero ∧ p.zero ≤ 268435456) : ACalls Tryz.prog 32 [.agg (progCells p), .agg (fnCells f), .v (.map (some m)), .agg (insCells i)] [.map m (lmT many)] (fun t S => t = bv (mayR p f many i) ∧ S = [.map m (lmT many)]) := ACalls.keep1 (may23_ p f many i m hp hi hz)
theorem Check7 (p : Prog) (hp : ProgIn p) :
    ACalls Tryz.prog 7 [.agg (progCells p)] [] (fun t S => t = zi (checkR p)) := by
 have hpf := hp.funs
 have hpd := hp.data
 have hall := hp.all
 refine ai Tryz.func7 Tryz.ntmps7 fun X w0 => ?_
 refine rs ?_
 refine bx fun b1 => ?_
 refine y1 ?_
 refine nl (sq (rs (y7 ?_)))
 refine gF (Yv.indexSl rfl ss_22 (B rfl) (E rfl rfl) (Eg rfl rfl id) (fun hg => ⟨rfl, (by first | omega | (simp only [len_code, len_funs, len_args, len_data]; omega) | (simp only [len_code, len_funs, len_args, len_data]; simp only [Bool.and_eq_true, Bool.or_eq_false_iff, Bool.not_eq_true', Bool.not_eq_false', decide_eq_true_eq, decide_eq_false_iff_not] at hg; omega))⟩)) ?_
 refine y1 ?_
 refine gF (Yv.loadRp rfl ag_3 (Eg rfl rfl id) (fun hg => fpar_at (j := 0) og)) ?_
 refine y18 ?_
 refine gF (Yv.subN_i64 rfl (E rfl rfl) (Eg rfl rfl id) (fun hg => by first | omega | (simp only [Bool.and_eq_true, Bool.or_eq_false_iff, Bool.not_eq_true', Bool.not_eq_false', decide_eq_true_eq, decide_eq_false_iff_not] at hg; omega))) ?_
 refine y2 (nl ?_)
 refine cq (fun h0t => ?_) fun h0f => ?_
 ·refine rs (y1 (nl ?_))
  refine rt ?_
  show zi _ = zi _
  rw [check_0 h0t]
 refine sp (rs (y1 ?_))
 refine nl (sq (rs (y1 ?_)))
 refine nl (bk ?_)
 refine lp1 (fun (j : Nat) => [(1, true, pv b1), (3, true, .v (.int .i64 (sumC p j : Int))), (4, true, zv j)]) (fun (j : Nat) => [.box b1 25 (progCells p)]) (fun (j : Nat) => j ≤ p.funs.length) (fun (j : Nat) => p.funs.length - j) 0 ?_ ?_
 ·exact Nat.zero_le _
 intro j hinv
 refine sq (rs (y5 (nl ?_)))
 refine cq (fun _ => ?_) fun _ => ?_
 ·have hj : j < p.funs.length := by omega
  have hs1 := sumC_le p (j + 1)
  have hs2 := sumC_succ hj
  refine sp (sq (bk (rs (y10 ?_))))
  refine nl (rs (y2 (nl ?_)))
  refine cf fun _ => ?_
  refine sp (rg (y3 (nl ?_)))
  refine ⟨j + 1, by omega, by omega, (su (Sub.cons rfl (by rw [sumC_succ hj]; simp) sbZ)), rfl⟩
 have hs3 := sumC_le p p.funs.length
 refine xt (sq (rs (y1 ?_)))
 refine nl (bk ?_)
 refine lp1 (fun (j : Nat) => [(1, true, pv b1), (5, true, zv j)]) (fun (j : Nat) => [.box b1 25 (progCells p)]) (fun (j : Nat) => j ≤ p.funs.length ∧ ∀ k, k < j → funR p (p.funs.getD k default) = true) (fun (j : Nat) => p.funs.length - j) 0 ?_ ?_
 ·exact ⟨Nat.zero_le _, fun k hk => absurd hk (Nat.not_lt_zero k)⟩
 intro j hinv
 obtain ⟨hj2, hfr⟩ := hinv
 refine sq (rs (y5 (nl ?_)))
 refine cq (fun _ => ?_) fun _ => ?_
 ·have hjl : j < p.funs.length := by omega
  have hfi := hp.fn _ (getD_mem hjl)
  have hfc := hfi.code
  refine sp (sq (bk (rs (y5 ?_))))
  refine bx fun b6 => ?_
  refine y1 (nl ?_)
  refine AW.eqS (S' := [.box b1 25 (progCells p), .box b6 86 (fnCells (p.funs.getD j default))]) rfl ?_
  refine sq (rs (y24 ?_))
  refine y12 (nl ?_)
  refine cq (fun h4t => ?_) fun h4f => ?_
  ·refine rs (y1 (nl ?_))
   refine rt ?_
   show zi _ = zi _
   rw [check_bad h0f (by have := sumC_le p p.funs.length; omega) hjl (fun_1 h4t)]
  have hc0 : 0 < (p.funs.getD j default).code.length := fb_code h4f
  refine sp (rs (y6 ?_))
  refine Y1 (Yv.indexSl (j := ((p.funs.getD j default).code.length - 1)) rfl ss_84 (B rfl) eV eV (fun hg => ⟨by omega, by rw [len_code]; omega⟩)) ?_
  refine y2 ?_
  refine kp (Ends21 (lastK (p.funs.getD j default))) ?_
  refine y1 ?_
  refine nl (rs (y1 ?_))
  refine kc (Labels22 (p.funs.getD j default) hfi.code) ?_
  rintro t121 S121 ⟨m8, w8, rfl, rfl⟩
  refine y5 ?_
  refine nl (sq (rs (y2 (nl ?_))))
  refine cq (fun h5t => ?_) fun h5f => ?_
  ·refine rs (y1 (nl ?_))
   refine rt ?_
   show zi _ = zi _
   rw [check_bad h0f (by have := sumC_le p p.funs.length; omega) hjl (fun_2 (by simpa using h5t))]
  have hend : endsF (lastK (p.funs.getD j default)) = true := by simpa using h5f
  refine sp (rs (y1 ?_))
  refine nl (bk ?_)
  refine lp1 (fun (q : Nat) => [(1, true, pv b1), (5, true, zv j), (6, true, pv b6), (8, true, .v (.map (some m8))), (10, true, zv q)]) (fun (q : Nat) => [.map m8 (lmT (cntL (p.funs.getD j default).code)), .map w8 (lmT (whL (p.funs.getD j default).code)), .box b1 25 (progCells p), .box b6 86 (fnCells (p.funs.getD j default))]) (fun (q : Nat) => q ≤ (p.funs.getD j default).code.length ∧ ∀ k, k < q → mayR p (p.funs.getD j default) (cntL (p.funs.getD j default).code) ((p.funs.getD j default).code.getD k default) = true) (fun (q : Nat) => (p.funs.getD j default).code.length - q) 0 ?_ ?_
  ·exact ⟨Nat.zero_le _, fun k hk => absurd hk (Nat.not_lt_zero k)⟩
  intro q hin3
  obtain ⟨hq, hmr⟩ := hin3
  refine sq (rs (y5 (nl ?_)))
  refine cq (fun _ => ?_) fun _ => ?_
  ·have hq2 : q < (p.funs.getD j default).code.length := by omega
   refine sp (sq (bk ?_))
   refine AW.rseqP rfl ?_
   refine phn 8 2 ?_
   refine q8 (nq ?_)
   refine op 8 ?_
   refine kk (may23 p (p.funs.getD j default) (cntL (p.funs.getD j default).code) ((p.funs.getD j default).code.getD q default) m8 hp (hfi.ins _ (getD_mem hq2)) (pb_zero h0f)) ?_
   refine nl ?_
   refine op 9 ?_
   refine y1 (nl ?_)
   refine dn ?_
   refine rs (y2 (nl ?_))
   refine cq (fun h7t => ?_) fun h7f => ?_
   ·refine rs (y1 (nl ?_))
    refine rt ?_
    show zi _ = zi _
    rw [check_bad h0f (by have := sumC_le p p.funs.length; omega) hjl (fun_3 hq2 (by simpa using h7t))]
   refine sp (rg (y3 (nl ?_)))
   refine ⟨q + 1, ⟨by omega, fun k hk => ?_⟩, by omega, sbZ, rfl⟩
   rcases Nat.lt_or_ge k q with h | h
   ·exact hmr k h
   obtain rfl : k = q := by omega
   simpa using h7f
  refine xt ?_
  refine AW.dropAt 0 ?_
  refine AW.dropAt 0 ?_
  refine AW.dropAt 1 ?_
  refine rg (y3 (nl ?_))
  refine ⟨j + 1, ⟨by omega, fun k hk => ?_⟩, by omega, sbZ, rfl⟩
  rcases Nat.lt_or_ge k j with h | h
  ·exact hfr k h
  obtain rfl : k = j := by omega
  exact fun_ok h4f hend (fun k hk => hmr k (by omega))
 refine xt (rs (y1 (nl ?_)))
 refine rt ?_
 show zi _ = zi _
 rw [check_ok h0f (by have := sumC_le p p.funs.length; omega) (fun k hk => hfr k (by omega))]

def chkCells (p : Prog) (f : Fn) (m : Value) : List T := progCells p ++ fnCells f ++ [.v m]
def inB (regs r : Int) : Bool := decide (0 ≤ r) && decide (r < regs)
def w1B (ok : Bool) (h : Has) (regs : Int) (i : Ins) : Bool := (((!ok) || (h.d && !inB regs i.d)) || (h.a && !inB regs i.a)) || (h.b && !inB regs i.b)
def w2B (h : Has) (nf : Int) (many : LM) (i : Ins) : Bool := (badCB h i || (h.l && !decide (getL i.l many = 1))) || (h.f && (decide (i.f < 0) || decide (nf ≤ i.f)))
def w3B (h : Has) (regs : Int) (i : Ins) : Bool := h.args && i.args.any fun a => !inB regs a
def restW (p : Prog) (slots : Int) (i : Ins) : Bool :=
 if i.kind = 16 then decide (1 ≤ i.real) && decide (i.real ≤ 8)
 else if i.kind = 17 ∨ i.kind = 18 then decide (-2147483648 ≤ i.imm) && decide (i.imm ≤ 2147483647)
 else if i.kind = 22 ∨ i.kind = 24 then decide ((i.args.length : Int) = parF p i.f)
 else if i.kind = 23 ∨ i.kind = 25 then decide ((i.args.length : Int) ≤ 4)
 else if i.kind = 30 then decide ((i.args.length : Int) ≤ 3)
 else if i.kind = 27 then decide (0 ≤ i.imm) && decide (i.imm ≤ p.data.length + p.zero)
 else if i.kind = 31 ∨ i.kind = 32 then decide (0 ≤ i.imm) && decide (i.imm < slots)
 else true
def insW (p : Prog) (f : Fn) (many : LM) (i : Ins) : Bool :=
 if w1B (isF i.kind) (hasF i.kind) f.regs i = true then false else if w2B (hasF i.kind) p.funs.length many i = true then false else if w3B (hasF i.kind) f.regs i = true then false else restW p f.slots i
def funW (p : Prog) (f : Fn) : Bool := !(badFB f || !endsF (lastK f)) && f.code.all (insW p f (cntL f.code))
def checkW (p : Prog) : Int :=
 if badPB p = true then 130 else if 4194304 < sumC p p.funs.length then 130 else if p.funs.all (funW p) then 0 else 130
section
variable {p : Prog} {f : Fn} {many : LM} {i : Ins}
theorem ins_1 (h : w1B (isF i.kind) (hasF i.kind) f.regs i = true) : insW p f many i = false := by rw [insW, if_pos h]
theorem ins_2 (h1 : w1B (isF i.kind) (hasF i.kind) f.regs i = false) (h : w2B (hasF i.kind) p.funs.length many i = true) : insW p f many i = false := by rw [insW, if_neg (by rw [h1]; decide), if_pos h]
theorem ins_3 (h1 : w1B (isF i.kind) (hasF i.kind) f.regs i = false) (h2 : w2B (hasF i.kind) p.funs.length many i = false) (h : w3B (hasF i.kind) f.regs i = true) : insW p f many i = false := by rw [insW, if_neg (by rw [h1]; decide), if_neg (by rw [h2]; decide), if_pos h]
theorem ins_4 (h1 : w1B (isF i.kind) (hasF i.kind) f.regs i = false) (h2 : w2B (hasF i.kind) p.funs.length many i = false) (h3 : w3B (hasF i.kind) f.regs i = false) : insW p f many i = restW p f.slots i := by rw [insW, if_neg (by rw [h1]; decide), if_neg (by rw [h2]; decide), if_neg (by rw [h3]; decide)]
theorem w2_f (h : w2B (hasF i.kind) p.funs.length many i = false) (hf : (hasF i.kind).f = true) : 0 ≤ i.f ∧ i.f.toNat < p.funs.length := by
 unfold w2B at h
 rw [hf, Bool.true_and] at h
 simp only [Bool.or_eq_false_iff, decide_eq_false_iff_not] at h
 omega
theorem cw_0 (h : badPB p = true) : checkW p = 130 := by rw [checkW, if_pos h]
theorem cw_bad {k : Nat} (h0 : badPB p = false) (hs : ¬ 4194304 < sumC p p.funs.length) (hk : k < p.funs.length) (h : funW p (p.funs.getD k default) = false) : checkW p = 130 := by
 rw [checkW, if_neg (by rw [h0]; decide), if_neg hs, if_neg (by rw [not_all hk h]; decide)]
theorem cw_ok (h0 : badPB p = false) (hs : ¬ 4194304 < sumC p p.funs.length) (h : ∀ k, k < p.funs.length → funW p (p.funs.getD k default) = true) : checkW p = 0 := by
 rw [checkW, if_neg (by rw [h0]; decide), if_neg hs, if_pos (all_of h)]
theorem fw_1 (h : (badFB f || !endsF (lastK f)) = true) : funW p f = false := by rw [funW, h]; rfl
theorem fw_2 {k : Nat} (hk : k < f.code.length) (h : insW p f (cntL f.code) (f.code.getD k default) = false) : funW p f = false := by rw [funW, not_all hk h, Bool.and_false]
theorem fw_ok (h1 : (badFB f || !endsF (lastK f)) = false) (h3 : ∀ k, k < f.code.length → insW p f (cntL f.code) (f.code.getD k default) = true) : funW p f = true := by rw [funW, h1, all_of h3]; rfl
end
/-! ### both Checks answer alike -/
theorem out_in (regs a : Int) : outB regs a = !inB regs a := by
 unfold outB inB
 rw [Bool.not_and, ← decide_not, ← decide_not]
 congr 1 <;> (apply decide_eq_decide.2; omega)
theorem has_of {k : Int} (h : isF k = true) : 1 ≤ k ∧ k ≤ 32 := by
 apply Classical.byContradiction
 intro hn
 have e : ofF k = none := by
  unfold ofF
  rw [if_neg (by omega), if_neg (by omega), if_neg (by omega), if_neg (by omega), if_neg (by omega), if_neg (by omega), if_neg (by omega), if_neg (by omega), if_neg (by omega), if_neg (by omega), if_neg (by omega), if_neg (by omega), if_neg (by omega), if_neg (by omega), if_neg (by omega)]
 unfold isF at h
 rw [e] at h
 cases h
theorem restB_true {p : Prog} {slots : Int} {i : Ins} (h : i.kind ≠ 16 ∧ i.kind ≠ 17 ∧ i.kind ≠ 18 ∧ i.kind ≠ 27 ∧ i.kind ≠ 31 ∧ i.kind ≠ 32) : restB p slots i = true := by
 unfold restB
 rw [if_neg (by omega), if_neg (by omega), if_neg (by omega), if_neg (by omega)]
theorem restW_22 {p : Prog} {slots : Int} {i : Ins} (h : i.kind = 22 ∨ i.kind = 24) : restW p slots i = decide ((i.args.length : Int) = parF p i.f) := by
 unfold restW
 rw [if_neg (by omega), if_neg (by omega), if_pos h]
theorem restW_23 {p : Prog} {slots : Int} {i : Ins} (h : i.kind = 23 ∨ i.kind = 25) : restW p slots i = decide ((i.args.length : Int) ≤ 4) := by
 unfold restW
 rw [if_neg (by omega), if_neg (by omega), if_neg (by omega), if_pos h]
theorem restW_30 {p : Prog} {slots : Int} {i : Ins} (h : i.kind = 30) : restW p slots i = decide ((i.args.length : Int) ≤ 3) := by
 unfold restW
 rw [if_neg (by omega), if_neg (by omega), if_neg (by omega), if_neg (by omega), if_pos h]
theorem rest_eq {p : Prog} {f : Fn} {i : Ins} (hpar : ∀ g ∈ p.funs, 0 ≤ g.params ∧ g.params ≤ 4) (hk : isF i.kind = true) (hf : (hasF i.kind).f = true → i.f.toNat < p.funs.length) :
    (if badNB (hasF i.kind) p i = true then false else restB p f.slots i) = restW p f.slots i := by
 have h32 := has_of hk
 have hpf : (hasF i.kind).f = true → parF p i.f ≤ 4 := fun h => (hpar _ (getD_mem (hf h))).2
 by_cases h22 : i.kind = 22 ∨ i.kind = 24
 ·have e1 : (hasF i.kind).args = true ∧ (hasF i.kind).f = true := by rcases h22 with h | h <;> rw [h] <;> exact ⟨rfl, rfl⟩
  have e2 := hpf e1.2
  have e3 : mostF i.kind = 4 := by unfold mostF; rw [if_neg (by omega)]
  rw [restB_true (by omega), restW_22 h22]
  unfold badNB
  rw [e1.1, e1.2, e3]
  simp only [Bool.true_and, Bool.and_true, Bool.or_eq_true, decide_eq_true_eq, Bool.not_eq_true', decide_eq_false_iff_not]
  by_cases h : (i.args.length : Int) = parF p i.f
  ·rw [if_neg (by omega), decide_eq_true h]
  rw [if_pos (.inr h), decide_eq_false h]
 by_cases h23 : i.kind = 23 ∨ i.kind = 25
 ·have e1 : (hasF i.kind).args = true ∧ (hasF i.kind).f = false := by rcases h23 with h | h <;> rw [h] <;> exact ⟨rfl, rfl⟩
  have e3 : mostF i.kind = 4 := by unfold mostF; rw [if_neg (by omega)]
  rw [restB_true (by omega), restW_23 h23]
  unfold badNB
  rw [e1.1, e1.2, e3]
  simp only [Bool.true_and, Bool.and_false, Bool.false_and, Bool.or_false, decide_eq_true_eq]
  by_cases h : (i.args.length : Int) ≤ 4
  ·rw [if_neg (by omega), decide_eq_true h]
  rw [if_pos (by omega), decide_eq_false h]
 by_cases h30 : i.kind = 30
 ·have e1 : (hasF i.kind).args = true ∧ (hasF i.kind).f = false := by rw [h30]; exact ⟨rfl, rfl⟩
  have e3 : mostF i.kind = 3 := by unfold mostF; rw [if_pos h30]
  rw [restB_true (by omega), restW_30 h30]
  unfold badNB
  rw [e1.1, e1.2, e3]
  simp only [Bool.true_and, Bool.and_false, Bool.false_and, Bool.or_false, decide_eq_true_eq]
  by_cases h : (i.args.length : Int) ≤ 3
  ·rw [if_neg (by omega), decide_eq_true h]
  rw [if_pos (by omega), decide_eq_false h]
 have e1 : (hasF i.kind).args = false := by
  have key : ∀ n : Fin 33, ¬ (n.val = 22 ∨ n.val = 24 ∨ n.val = 23 ∨ n.val = 25 ∨ n.val = 30) → (hasF (n.val : Int)).args = false := by decide +kernel
  obtain ⟨n, hn⟩ := Int.eq_ofNat_of_zero_le (show 0 ≤ i.kind by omega)
  rw [hn]
  exact key ⟨n, by omega⟩ (by simp only; omega)
 have e2 : badNB (hasF i.kind) p i = false := by unfold badNB; rw [e1]; rfl
 rw [if_neg (by rw [e2]; decide)]
 unfold restB restW
 by_cases h16 : i.kind = 16
 ·rw [if_pos h16, if_pos h16]
 rw [if_neg h16, if_neg h16]
 by_cases h17 : i.kind = 17 ∨ i.kind = 18
 ·rw [if_pos h17, if_pos h17]
 rw [if_neg h17, if_neg h17, if_neg h22, if_neg h23, if_neg h30]
theorem may_ins {p : Prog} {f : Fn} {many : LM} {i : Ins} (hpar : ∀ g ∈ p.funs, 0 ≤ g.params ∧ g.params ≤ 4) : insW p f many i = mayR p f many i := by
 cases h0 : isF i.kind with
 | false => rw [may_0 (by rw [h0]; rfl), ins_1 (by unfold w1B; rw [h0]; rfl)]
 | true =>
 have o := out_in
 have e1 : w1B (isF i.kind) (hasF i.kind) f.regs i = badRB (hasF i.kind) f.regs i := by
  unfold w1B badRB
  rw [h0, ← o, ← o, ← o]
  rfl
 cases h1 : badRB (hasF i.kind) f.regs i with
 | true => rw [may_1 (by rw [h0]; rfl) h1, ins_1 (e1.trans h1)]
 | false =>
  have e2 : w2B (hasF i.kind) p.funs.length many i = (badCB (hasF i.kind) i || badLB (hasF i.kind) p.funs.length many i) := by
   unfold w2B badLB
   rw [Bool.or_assoc]
  cases h2 : badCB (hasF i.kind) i with
  | true => rw [may_2 (by rw [h0]; rfl) h1 h2, ins_2 (e1.trans h1) (by rw [e2, h2]; rfl)]
  | false =>
   cases h3 : badLB (hasF i.kind) p.funs.length many i with
   | true => rw [may_3 (by rw [h0]; rfl) h1 h2 h3, ins_2 (e1.trans h1) (by rw [e2, h2, h3]; rfl)]
   | false =>
    have e3 : w3B (hasF i.kind) f.regs i = badAB (hasF i.kind) f.regs i := by
     unfold w3B badAB
     congr 2
     funext a
     exact (o _ _).symm
    have h2' : w2B (hasF i.kind) p.funs.length many i = false := by rw [e2, h2, h3]; rfl
    cases h4 : badAB (hasF i.kind) f.regs i with
    | true => rw [may_4 (by rw [h0]; rfl) h1 h2 h3 h4, ins_3 (e1.trans h1) h2' (e3.trans h4)]
    | false =>
     have e5 := rest_eq (f := f) hpar h0 (fun h => (lb_lt h3 h).2)
     have h0' : (!isF i.kind) = false := by rw [h0]; rfl
     cases h5 : badNB (hasF i.kind) p i with
     | true => rw [ins_4 (e1.trans h1) h2' (e3.trans h4), may_5 h0' h1 h2 h3 h4 h5, ← e5, if_pos h5]
     | false => rw [ins_4 (e1.trans h1) h2' (e3.trans h4), may_6 h0' h1 h2 h3 h4 h5, ← e5, if_neg (by rw [h5]; decide)]
theorem fb_par {f : Fn} (h : badFB f = false) : 0 ≤ f.params ∧ f.params ≤ 4 := by
 unfold badFB at h
 simp only [Bool.or_eq_false_iff, decide_eq_false_iff_not] at h
 omega
theorem check_eq (p : Prog) : checkW p = checkR p := by
 unfold checkW checkR
 have e : p.funs.all (funW p) = p.funs.all (funR p) := by
  by_cases h : ∀ g ∈ p.funs, badFB g = false
  ·have hpar : ∀ g ∈ p.funs, 0 ≤ g.params ∧ g.params ≤ 4 := fun g hg => fb_par (h g hg)
   have : ∀ g ∈ p.funs, funW p g = funR p g := fun g hg => by
    unfold funW funR
    have e2 : (insW p g (cntL g.code)) = (mayR p g (cntL g.code)) := by funext i; exact may_ins hpar
    rw [e2, h g hg]
    simp
   rw [Bool.eq_iff_iff, List.all_eq_true, List.all_eq_true]
   exact ⟨fun q g hg => by rw [← this g hg]; exact q g hg, fun q g hg => by rw [this g hg]; exact q g hg⟩
  ·have ⟨g, hg, hb⟩ : ∃ g ∈ p.funs, badFB g = true := by
    apply Classical.byContradiction
    intro hn
    exact h fun g hg => by
     cases hc : badFB g with
     | false => rfl
     | true => exact absurd ⟨g, hg, hc⟩ hn
   rw [List.all_eq_false.2 ⟨g, hg, by rw [fw_1 (by rw [hb]; rfl)]; decide⟩, List.all_eq_false.2 ⟨g, hg, by rw [fun_1 hb]; decide⟩]
 rw [e]
end Go.Proofs.YtlfklgganokgdaaGreat
