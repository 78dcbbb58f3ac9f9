/-
  READING INTO ROWS OF ONE'S OWN; the document's reader.
-/
import Derived.Test.YtbndnmmceccbkaaFresh
import Derived.Test.YtbndnmmceccbkaaReadC
namespace Go.Proofs.Ytbndnmmceccbkaa
open Go Go.RowKit
set_option linter.unusedSectionVars false
section
variable {cx : Cx} {env : Env} {S : St} {o : Oper} {g : Bool} {x y z : Operand} {ops : Array Oper} {l : List Oper} {K : Env → St → Prop} {d : Nat}
theorem Seens.one {t : T} (h1 : Sees cx env S g x t) : Seens cx env S g [x] [t] := ⟨h1, trivial⟩
theorem AWL.callSees {f : FuncId} {xf : Operand} {xs : Array Operand} {ats : Array TypeId} {fst cap : Array Value} {ts : List T} {R : T → St → Prop} {r : Value} (hg : o.guard = none) (hd : o.dst = some d) (hN : d < cx.N)
    (ho : o.op = .call { callee := .value xf, args := xs, argTypes := ats }) (hf : calleeB cx.P f = true) (hxf : Ev env true xf (.v (.func (.func f) fst cap))) (hx : Seens cx env S true xs.toList ts)
    (hc : ACalls cx.P f (fst.toList.map T.v ++ (ts ++ cap.toList.map T.v)) [] R) (hq : ∀ t S', R t S' → t = .v r) (hr : AWL cx ops l K ((d, true, .v r) :: env) S) : AWL cx ops (o :: l) K env S := by
  intro a w hs
  unfold wpList
  rw [if_pos (wanted_none hg)]
  refine .inl ?_
  unfold Oper.wp
  obtain ⟨args, h1, h2⟩ := call_sees (g := true) ho hf hxf hx (fun _ => hc) hq hs rfl w (Keeps.refl _ _)
  rw [h1, Oper.upon_enter, hd]
  refine h2.mono ?_
  rintro e w' ⟨rfl, hk⟩
  exact hr _ _ ((hs.more hk).put hN (fun _ => .v r) (by simp))
theorem AWL.callSeesg {f : FuncId} {xf : Operand} {xs : Array Operand} {ats : Array TypeId} {fst cap : Array Value} {ts : List T} {R : T → St → Prop} {r : Value} {j dj : Nat} {c b want : Bool} (hg : o.guard = some (j, want)) (hj : (ops[j]?).bind (·.dst) = some dj) (hk : get dj env = some (c, .v (.bool b)))
    (hd : o.dst = some d) (hN : d < cx.N) (ho : o.op = .call { callee := .value xf, args := xs, argTypes := ats }) (hf : calleeB cx.P f = true) (hxf : Ev env (c && (b == want)) xf (.v (.func (.func f) fst cap))) (hx : Seens cx env S (c && (b == want)) xs.toList ts)
    (hc : (c && (b == want)) = true → ACalls cx.P f (fst.toList.map T.v ++ (ts ++ cap.toList.map T.v)) [] R) (hq : ∀ t S', R t S' → t = .v r) (hr : AWL cx ops l K ((d, (c && (b == want)), .v r) :: env) S) : AWL cx ops (o :: l) K env S := by
  intro a w hs
  unfold wpList
  rw [hs.guard hg hj hk]
  cases hcc : (c && (b == want)) with
  | true =>
    rw [if_pos rfl]
    refine .inl ?_
    unfold Oper.wp
    obtain ⟨args, h1, h2⟩ := call_sees (g := c && (b == want)) ho hf hxf hx hc hq hs hcc w (Keeps.refl _ _)
    rw [h1, Oper.upon_enter, hd]
    refine h2.mono ?_
    rintro e w' ⟨rfl, hk⟩
    exact hr _ _ ((hs.more hk).put hN (fun _ => .v r) (fun e => by rw [hcc] at e; cases e))
  | false =>
    rw [if_neg (by simp), hd]
    exact hr _ _ (hs.put hN (fun e => by rw [hcc] at e; cases e) (fun _ => rfl))
theorem AWL.callSeesF {f : FuncId} {xf : Operand} {xs : Array Operand} {ats : Array TypeId} {fst cap : Array Value} {ts : List T} {R : T → St → Prop} {r : Value} {j dj : Nat} {c b : Bool} (hg : o.guard = some (j, false)) (hj : (ops[j]?).bind (·.dst) = some dj) (hk : get dj env = some (c, .v (.bool b)))
    (hd : o.dst = some d) (hN : d < cx.N) (ho : o.op = .call { callee := .value xf, args := xs, argTypes := ats }) (hf : calleeB cx.P f = true) (hxf : Ev env (c && !b) xf (.v (.func (.func f) fst cap))) (hx : Seens cx env S (c && !b) xs.toList ts)
    (hc : (c && !b) = true → ACalls cx.P f (fst.toList.map T.v ++ (ts ++ cap.toList.map T.v)) [] R) (hq : ∀ t S', R t S' → t = .v r) (hr : AWL cx ops l K ((d, (c && !b), .v r) :: env) S) : AWL cx ops (o :: l) K env S := by
  have e : (c && (b == false)) = (c && !b) := by cases b <;> rfl
  exact AWL.callSeesg hg hj hk hd hN ho hf (e ▸ hxf) (e ▸ hx) (fun h => hc (e ▸ h)) hq (e ▸ hr)
end
theorem thing_tree {w : World} {L : List Nat} {S : St} (hS : ∀ e ∈ S, e.holds w L) {f : Fr} (hf : frRow f ∈ S) {u : Value} (hu : VRep w [] (.agg (frCells f)) u) : VRep w [] (thingT f.t) u := by
  have hr : VRep w [] (refsT f.t.refs) (.slice f.A f.n f.c) := row_tree (by decide) (hS _ hf)
  cases hu with
  | agg hl h h1 =>
    rename_i ys
    refine .agg hl (fun j t v e1 e2 => ?_) h1
    rcases j with _ | _ | _ | _ | j
    · exact h 0 t v e1 e2
    · exact h 1 t v e1 e2
    · exact h 2 t v e1 e2
    · have e3 := h 3 _ v rfl e2
      have e4 := e3.v_inv
      have e1' : refsT f.t.refs = t := by
        have : (thingCells f.t)[3]? = some (refsT f.t.refs) := rfl
        rw [this] at e1
        exact Option.some.inj e1
      rw [← e1', e4]
      exact hr
    · have : (thingCells f.t)[j + 4]? = none := List.getElem?_eq_none (by show 4 ≤ _; omega)
      rw [this] at e1; cases e1
theorem sees_thing {cx : Cx} {env : Env} {S : St} {b : Bool} {x : Operand} {f : Fr} (hx : Ev env b x (.agg (frCells f))) (hf : frRow f ∈ S) : Sees cx env S b x (thingT f.t) := fun a w hs hb =>
  thing_tree hs.ents hf ((hx.rep hs hb).mono (Nat.le_refl _) (fun _ _ _ => rfl) (fun _ _ hm => by cases hm))
def noRow (t : Thing) : Fr := ⟨none, 0, 0, t⟩
/-! ### the document's reader -/
abbrev RQ (bm br : Nat) (b : List UInt8) (a : Int) (A : Option Addr) (c : Nat) (row : List Int) : St :=
  [.map bm (mapE .u64 0 row), .box br 77 [u8s b, .v (.int .u64 a), .v (.map (some bm)), .v (.slice A row.length c)], .row A row.length c 29 1 (row.map zu)]
theorem RQ_new {bm br : Nat} {b : List UInt8} {a x : Int} {A : Option Addr} {c : Nat} {row : List Int} (e3 : putK (.i .u64 x) (.v (.int .i64 (row.length : Int))) (mapE .u64 0 row) = mapE .u64 0 (row ++ [x])) :
    RQ bm br b a A c (row ++ [x]) = [.map bm (putK (.i .u64 x) (.v (.int .i64 (row.length : Int))) (mapE .u64 0 row)), .box br 77 [u8s b, .v (.int .u64 a), .v (.map (some bm)), .v (.slice A (row.length + 1) c)], .row A (row.length + 1) c 29 1 (row.map zu ++ [.v (.int .u64 x)])] := by
  rw [e3, RQ, List.length_append, List.length_singleton, List.map_append]; rfl
def outR (b : List UInt8) (a x : Int) : Bool := decide (x < a) || decide ((b.length : Int) < x - a) || decide ((b.length : Int) - (x - a) < 8)
def atR (b : List UInt8) (a x : Int) : Int := if outR b a x = true then 0 else wordAt b (x - a).toNat
theorem atR_out {b : List UInt8} {a x : Int} (h : outR b a x = true) : atR b a x = 0 := by rw [atR, if_pos h]
theorem atR_in {b : List UInt8} {a x : Int} {o : Nat} (ho : x - a = o) (h : outR b a x = false) : atR b a x = wordAt b o := by rw [atR, h, if_neg (by decide), ho, Int.toNat_natCast]
theorem atR_range (b : List UInt8) (a x : Int) : 0 ≤ atR b a x ∧ atR b a x ≤ 18446744073709551615 := by
  unfold atR
  split
  · omega
  · exact wordAt_range b _
theorem bad0_eq (b : List UInt8) (a x : Int) : bad0 b a x = (!decide (x % 8 = 0) || outR b a x) := by unfold bad0 outR; simp only [Bool.or_assoc]
/-- What the document's thing looks for first. -/
def badA (b : List UInt8) (a x : Int) : Bool := !!outR b a x || !decide (x % 8 = 0) || decide (atR b a x % 2 = 0) || !decide (atR b a x / 64 % 4 = 0)
theorem land_192 {h : Int} (h0 : 0 ≤ h) (h1 : h ≤ 18446744073709551615) : bitsOf .and .u64 h 192 = 0 ↔ h / 64 % 4 = 0 := by
  obtain ⟨p, rfl⟩ := Int.eq_ofNat_of_zero_le h0
  have e : p &&& 192 = (p / 64 % 4) * 64 := by
    have h3 : (p &&& 192) % 256 = (p % 256) &&& 192 := by
      rw [show (256 : Nat) = 2 ^ 8 from rfl, Nat.and_mod_two_pow]
    have h4 : p &&& 192 ≤ 192 := Nat.and_le_right
    have h5 : ∀ r : Nat, r < 256 → r &&& 192 = r / 64 % 4 * 64 := by decide +kernel
    have h6 := h5 (p % 256) (Nat.mod_lt _ (by decide))
    omega
  have h7 : bitsOf .and .u64 (p : Int) ((192 : Nat) : Int) = ((p &&& 192 : Nat) : Int) := by
    simp only [bitsOf, BitVec.toNat_and, ofInt_nat]
    rw [Nat.mod_eq_of_lt (show p < 2 ^ IntKind.u64.bits by show p < 18446744073709551616; omega), Nat.mod_eq_of_lt (show 192 < 2 ^ IntKind.u64.bits by decide)]
    have h8 : p &&& 192 ≤ 192 := Nat.and_le_right
    exact IntWalk.u64_in _ ⟨by omega, by omega⟩
  rw [show (192 : Int) = ((192 : Nat) : Int) from rfl, h7, e]
  omega
/-- How many words a thing takes behind its header. -/
def wordsN (k : Int) (n : Int) : Int := if bytesK k = true then (n + 7) / 8 else n
theorem span_words (k n : Int) : spanF k n = 8 + 8 * wordsN k n := by unfold spanF wordsN; split <;> omega
def badB (h r : Int) : Bool := decide (h / 2 % 16 < 1) || decide (8 < h / 2 % 16) || decide ((r - 8) / 8 < wordsN (h / 2 % 16) (h / 16777216))
theorem thingR_badA {b : List UInt8} {a x : Int} {row : List Int} (h : badA b a x = true) : thingR b a row x = none := by
  by_cases h0 : bad0 b a x = true
  · exact thingR_bad0 h0
  · have h0 : bad0 b a x = false := by simpa using h0
    have ho := h0
    rw [bad0_eq, Bool.or_eq_false_iff] at ho
    have hb := h0
    simp only [bad0, Bool.or_eq_false_iff, Bool.not_eq_false', decide_eq_true_eq, decide_eq_false_iff_not] at hb
    obtain ⟨o, hoo⟩ : ∃ o : Nat, x - a = o := ⟨(x - a).toNat, by omega⟩
    refine thingR_bad1 hoo h0 ?_
    have hw := wordAt_range b o
    unfold badA at h
    rw [ho.1, ho.2, atR_in hoo ho.2] at h
    simp only [Bool.not_false, Bool.not_true, Bool.false_or, Bool.or_eq_true, decide_eq_true_eq, Bool.not_eq_true', decide_eq_false_iff_not] at h
    simp only [bad1, Bool.or_eq_true, decide_eq_true_eq, Bool.not_eq_true', decide_eq_false_iff_not, land_192 hw.1 hw.2]
    rcases h with h | h
    · left; left; left; left; exact h
    · left; left; left; right; exact h
theorem badA_fine {b : List UInt8} {a x : Int} (h : badA b a x = false) : outR b a x = false ∧ x % 8 = 0 ∧ bad0 b a x = false := by
  simp only [badA, Bool.or_eq_false_iff, Bool.not_eq_false', decide_eq_true_eq, Bool.not_eq_true'] at h
  have h1 : outR b a x = false := by simpa using h.1.1.1
  exact ⟨h1, h.1.1.2, by rw [bad0_eq, h1, decide_eq_true h.1.1.2]; rfl⟩
theorem bad1_badB {b : List UInt8} {a x : Int} {o : Nat} (ho : x - a = o) (h : badA b a x = false) : bad1 (wordAt b o) (b.length - o) = badB (wordAt b o) (b.length - o) := by
  have hw := wordAt_range b o
  have hf := badA_fine h
  have h1 := atR_in ho hf.1
  simp only [badA, Bool.or_eq_false_iff, Bool.not_eq_false', decide_eq_true_eq, decide_eq_false_iff_not, h1] at h
  have hb := hf.2.2
  simp only [bad0, Bool.or_eq_false_iff, Bool.not_eq_false', decide_eq_true_eq, decide_eq_false_iff_not] at hb
  unfold bad1 badB
  rw [decide_eq_false h.1.2, decide_eq_true ((land_192 hw.1 hw.2).2 h.2), span_words]
  simp only [Bool.not_true, Bool.false_or]
  congr 1
  exact decide_eq_decide.2 (by omega)
/-- The document's look at a closure's code. -/
def badC (n g c : Int) : Bool := decide (n = 0) || !decide (g = 0) || decide (c < 4194304) || !decide ((c - 4194304) % 16 = 0) || decide (4194304 ≤ (c - 4194304) / 16)
theorem code_fine {c : Int} (h0 : 0 ≤ c) (h1 : c ≤ 18446744073709551615) (hc : ¬ c < 4194304) : IntKind.u64.wrap (c - 4194304) = c - 4194304 := by rw [IntKind.wrap_u64]; omega
theorem body_badC {b : List UInt8} {o n : Nat} {h : Int} {row : List Int} (hn : h / 16777216 = n) (hk : bytesK (h / 2 % 16) = false) (h8 : h / 2 % 16 = 8) {c : Int} (hcw : (n : Int) = 0 ∨ c = wordAt b (o + 8)) (hb : badC n (h / 256 % 65536) c = true) : body b o h row = none := by
  by_cases hz : (n : Int) = 0 ∨ ¬ h / 256 % 65536 = 0
  · exact body_c1 hn hk h8 hz
  · have hz : ¬ (n : Int) = 0 ∧ h / 256 % 65536 = 0 := by omega
    have hw := wordAt_range b (o + 8)
    obtain rfl := hcw.resolve_left hz.1
    refine body_c2 hn hk h8 hz ?_
    simp only [badC, Bool.or_eq_true, decide_eq_true_eq, Bool.not_eq_true', decide_eq_false_iff_not] at hb
    rw [IntKind.wrap_u64]
    omega
theorem badC_fine {n g c : Int} (h : badC n g c = false) : (¬ n = 0 ∧ g = 0) ∧ ¬ c < 4194304 ∧ (c - 4194304) % 16 = 0 ∧ ¬ 4194303 < (c - 4194304) / 16 := by
  simp only [badC, Bool.or_eq_false_iff, Bool.not_eq_false', decide_eq_true_eq, decide_eq_false_iff_not] at h
  omega
/-! ### bytes behind a thing's bytes -/
theorem zs_len {b : List UInt8} {o n : Nat} {k : Int} (h : o + (spanF k n).toNat ≤ b.length) : (zsOf b o n k).length = o + (spanF k n).toNat - (o + 8 + n) := by
  rw [zsOf, List.length_take, List.length_drop]; omega
theorem zs_get {b : List UInt8} {o n i : Nat} {k : Int} (h : i < (zsOf b o n k).length) : (zsOf b o n k).getD i 0 = b.getD (o + 8 + n + i) 0 := by
  unfold zsOf at h ⊢
  rw [List.length_take, List.length_drop] at h
  rw [List.getD_eq_getElem?_getD, List.getD_eq_getElem?_getD, List.getElem?_take, if_pos (by omega), List.getElem?_drop]
theorem zs_bad {zs : List UInt8} {i : Nat} (hi : i < zs.length) (h : ¬ ((zs.getD i 0).toNat : Int) = 0) : zs.any (fun z => !decide (z = 0)) = true := by
  refine List.any_eq_true.2 ⟨zs.getD i 0, getD_eq hi ▸ List.getElem_mem hi, ?_⟩
  rw [decide_eq_false (fun e => h (by rw [e]; rfl))]; rfl
theorem zs_good {zs : List UInt8} {i : Nat} (hi : zs.length ≤ i) (h : ∀ m, m < i → ((zs.getD m 0).toNat : Int) = 0) : zs.any (fun z => !decide (z = 0)) = false := by
  rw [List.any_eq_false]
  intro z hz
  obtain ⟨m, hm, rfl⟩ := List.getElem_of_mem hz
  have h1 := h m (by omega)
  rw [getD_eq hm] at h1
  have : zs[m] = 0 := UInt8.toNat_inj.1 (by show zs[m].toNat = 0; omega)
  rw [this]; decide
end Go.Proofs.Ytbndnmmceccbkaa
