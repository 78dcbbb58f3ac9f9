/-
  TEXTS JOINED: Aw12, Aw13, Aw15, Aw16, Aw17, Aw18, Aw20, MFacts, Aw21, Bytes, Ins, Aw22, Aw23, Aw26, Aw27, Aw28, Aw30, Aw31, Aw32, Aw35.
-/
import Derived.Orders
import Derived.Lib.AppendZerosOnto
import Derived.Laws.IdiomCopy
import Derived.Laws.StructEq
import Derived.Laws.Strings
import Derived.MapKept
import Derived.Lib.UnsafeStr
import Derived.Lib.Bytealg
import Derived.Laws.Pointers
import Derived.Defers
import Derived.Test.YtecpjlhbkmongaaGreatRows
import Derived.OrdersHeld
import Derived.Scope
import Derived.Maps.RangeRun
import Derived.Lib.SliceRun
import Derived.Laws.FloatArith
import Derived.Laws.Cover2
import Derived.Test.YtecpjlhbkmongaaGreatYa
set_option linter.unusedSimpArgs false
set_option linter.unusedVariables false
set_option linter.unusedSectionVars false
set_option linter.unnecessarySimpa false
namespace Go.Proofs.YtecpjlhbkmongaaGreat
open Go Go.RowKit

theorem bits_and_mod {k : IntKind} {n D : Nat} (p : Nat) (hD : 2 ^ n = D) (hDk : D ≤ 2 ^ k.bits) (hpb : p < 2 ^ k.bits) (hk : k.wrap ((p % D : Nat) : Int) = ((p % D : Nat) : Int)) : bitsOf .and k (p : Int) ((D - 1 : Nat) : Int) = ((p % D : Nat) : Int) := by
 subst hD
 have h1 : 2 ^ n - 1 < 2 ^ k.bits := by
  have : 0 < 2 ^ n := Nat.pow_pos (by decide)
  omega
 simp only [bitsOf, BitVec.toNat_and, ofInt_nat]
 rw [Nat.mod_eq_of_lt hpb, Nat.mod_eq_of_lt h1, Nat.and_two_pow_sub_one_eq_mod, hk]

section
variable {cx : Cx} {env : Env} {S : St} {o : Oper} {g : Bool} {x y z : Operand} {ops : Array Oper} {l : List Oper} {K : Env → St → Prop} {Q : Exit → Env → St → Prop} {d : Nat}

theorem Yv.andN_i64 {ty yt : TypeId} {p q : Int} (n : Nat) (D : Nat) (hD : 2 ^ n = D) (hDk : D ≤ 18446744073709551616) (hq : q = ((D - 1 : Nat) : Int)) (ho : o.op = .binOp .and ty x y yt) (hx : Ev env g x (.v (.int .i64 p))) (hy : Ev env g y (.v (.int .i64 q))) (hb : g = true → 0 ≤ p ∧ p ≤ 9223372036854775807) : Yv cx o env S g (.v (.int .i64 (p % (D : Int)))) := by
 intro a w hs hg
 obtain ⟨h0, h1⟩ := hb hg
 have h := Yv.bits (cx := cx) ho rfl hx hy a w hs hg
 obtain ⟨p, rfl⟩ := Int.eq_ofNat_of_zero_le h0
 have hB : (2 : Nat) ^ IntKind.i64.bits = 18446744073709551616 := by decide
 have hm : p % D ≤ p := Nat.mod_le p D
 have e := bits_and_mod (k := .i64) p hD (hB ▸ hDk) (by rw [hB]; omega) (IntWalk.i64_in _ ⟨by omega, by omega⟩)
 rw [hq, e, Int.natCast_emod] at h
 exact h

theorem AWL.callT {f : FuncId} {xf : Operand} {xs : Array Operand} {ats : Array TypeId} {fst cap : Array Value} {ts : List T} {R : T → St → Prop} (hg : o.guard = none) (hd : o.dst = some d) (hN : d < cx.N)
    (ho : o.op = .call { callee := .value xf, args := xs, argTypes := ats }) (hf : calleeB cx.P f = true) (hxf : Ev env true xf (.v (.func (.func f) fst cap))) (hx : Evs env true xs.toList ts)
    (hc : ACalls cx.P f (fst.toList.map T.v ++ (ts ++ cap.toList.map T.v)) [] R) (hr : ∀ t S', R t S' → AWL cx ops l K ((d, true, t) :: env) S) : AWL cx ops (o :: l) K env S :=
 AWL.call hg hd hN ho hf hxf hx (S1 := []) (S2 := S) rfl hc fun t S' hR => AWL.drop (List.sublist_append_right S' S) (hr t S' hR)
theorem AW.dropAt {code : Code} (i : Nat) (h : AW cx code Q env (S.eraseIdx i)) : AW cx code Q env S := AW.drop (List.eraseIdx_sublist S i) h
theorem AWL.dropAt (i : Nat) (h : AWL cx ops l K env (S.eraseIdx i)) : AWL cx ops l K env S := AWL.drop (List.eraseIdx_sublist S i) h
theorem Sim.freezeCell {a : Act} {w : World} (hs : Sim cx env S a w) {i j p n c k b ty : Nat} {A : Option Addr} {e : TypeId} {cs bs : List T} (hi : S[i]? = some (.row A n c e k cs)) (hk : 0 < k) (hj : (S.eraseIdx i)[j]? = some (.box b ty bs)) (hp : bs[p]? = some (.v (.slice A n c))) :
    Sim cx env ((S.eraseIdx i).set j (.box b ty (bs.set p (.sl k cs)))) a w := by
 obtain ⟨h1, h2⟩ := hs.freeze hi hk
 obtain ⟨us, hh, hV⟩ := h1.box hj
 refine h1.setEnt hj rfl (fun _ _ _ => rfl) rfl rfl rfl rfl ⟨us, hh, ?_⟩
 obtain ⟨u, e1, e2, e3⟩ := hV.get hp
 obtain rfl := e2.v_inv
 have := hV.set p h2 e3
 have hu : us.set p (.slice A n c) = us := by
  apply List.ext_getElem?
  intro q
  rw [List.getElem?_set]
  split
  ·rename_i hq
   subst hq
   rw [e1]
   split
   ·rfl
   ·rename_i hn
    rw [List.getElem?_eq_none (by omega)] at e1
    cases e1
  ·rfl
 rwa [hu] at this
theorem AW.freezeCell {code : Code} {n c k b ty : Nat} {A : Option Addr} {e : TypeId} {cs bs : List T} (i j p : Nat) (hi : S[i]? = some (.row A n c e k cs)) (hk : 0 < k) (hj : (S.eraseIdx i)[j]? = some (.box b ty bs)) (hp : bs[p]? = some (.v (.slice A n c))) (h : AW cx code Q env ((S.eraseIdx i).set j (.box b ty (bs.set p (.sl k cs))))) : AW cx code Q env S := fun a w hs => h a w (hs.freezeCell hi hk hj hp)
end
end Go.Proofs.YtecpjlhbkmongaaGreat

namespace Go.Proofs.YtecpjlhbkmongaaGreat
open Go Go.RowKit

section
variable {cx : Cx} {env : Env} {S : St} {o : Oper} {g : Bool} {x y z : Operand} {ops : Array Oper} {l : List Oper} {K : Env → St → Prop} {Q : Exit → Env → St → Prop} {d : Nat}

def AWP (cx : Cx) (ops : Array Oper) (fuel : Nat) (listed : Array Bool) (K : Env → St → Prop) (env : Env) (S : St) : Prop :=
 ∀ a w, Sim cx env S a w → wpAny cx.P .any ops (liftN cx K) fuel listed a w

theorem Sim.drew {a : Act} {w : World} (hs : Sim cx env S a w) : Sim cx env S a { w with drawn := w.drawn + 1 } := by
 refine hs.step (w' := { w with drawn := w.drawn + 1 }) ⟨rfl, rfl, rfl, Nat.le_refl _, fun _ _ _ => rfl⟩ hs.nd (fun b hb => .inl hb) (fun e he => ?_)
 exact hs.ent (w' := { w with drawn := w.drawn + 1 }) ⟨rfl, rfl, rfl, Nat.le_refl _, fun _ _ _ => rfl⟩ (fun b hb => .inl hb) he (fun _ _ => rfl)

theorem AW.rseqP {id : Nat} {l : List Oper} {y : Code} (hm : cx.P.follows .mixedOrders = true) (h : AWP cx l.toArray l.length (Array.replicate l.length false) (AW cx y Q) env S) : AW cx (.seq (.region id l.toArray true) y) Q env S := by
 refine AW.seq fun a w hs => ?_
 have h1 := wp_region_any (id := id) hm (h a _ hs.drew)
 refine Code.wp_mono (fun e a w hq => ?_) h1
 obtain ⟨rfl, env', S', h1, h2⟩ := hq
 exact ⟨env', S', h1, h2⟩
theorem AW.regionP {id : Nat} {l : List Oper} (hm : cx.P.follows .mixedOrders = true) (h : AWP cx l.toArray l.length (Array.replicate l.length false) (Q .normal) env S) : AW cx (.region id l.toArray true) Q env S := by
 intro a w hs
 have h1 := wp_region_any (id := id) hm (h a _ hs.drew)
 refine Code.wp_mono (fun e a w hq => ?_) h1
 obtain ⟨rfl, env', S', h1, h2⟩ := hq
 exact ⟨env', S', h1, h2⟩
theorem AWP.done {fuel : Nat} {listed : Array Bool} (hr : Region.ready .any ops listed = []) (h : K env S) : AWP cx ops fuel listed K env S :=
 fun a w hs => wpAny_done hr ⟨rfl, env, S, hs, h⟩ fuel
theorem wp_both {a : Act} {w : World} {K1 K2 : Act → World → Prop} {Q1 Q2 : Exit → Act → World → Prop} (hK : ∀ a w, K1 a w → K2 a w) (hQ : ∀ e a w, e ≠ .normal → Q1 e a w → Q2 e a w) (h : o.wp cx.P a w K1 Q1) : o.wp cx.P a w K2 Q2 := by
 unfold Oper.wp at *
 generalize (execOp a.eval o).run cx.P w = r at *
 cases r with
 | ok n w' =>
  cases n <;> simp only [Oper.upon] at h ⊢ <;>
   first
    | exact hK _ _ h
    | exact Calls.mono h (fun e w'' he => by cases e <;> first | exact hK _ _ he | exact hQ _ _ _ (by simp) he | exact he.imp fun a he => he.imp fun w he => hQ _ _ _ (by simp) he)
    | exact Rows.mono h (fun _ _ he => hK _ _ he)
 | halt x w' => cases x <;> simp only [Oper.upon] at h ⊢ <;> first | exact hQ _ _ _ (by simp) h | exact h
theorem wpOp_of_AWL {K' : Act → World → Prop} {K1 : Env → St → Prop} {i : Nat} (hi : ops[i]? = some o) (h : AWL cx ops [o] K1 env S) (hK : ∀ env S a w, K1 env S → Sim cx env S a w → K' a w) {Q' : Exit → Act → World → Prop} {a : Act} {w : World} (hs : Sim cx env S a w) : wpOp cx.P ops Q' i K' a w := by
 have h1 := h a w hs
 unfold wpOp
 simp only [hi]
 unfold wpList at h1
 have e1 : ∀ a w, wpList cx.P ops (liftN cx K1) [] a w → K' a w := fun a w hq => by
  obtain ⟨_, env', S', h2, h3⟩ := hq
  exact hK _ _ _ _ h3 h2
 split
 ·rename_i hw
  rw [if_pos hw] at h1
  refine .inl ?_
  rcases h1 with h1 | ⟨_, a', w', h1, _⟩
  ·exact wp_both e1 (fun e a w hne hq => absurd hq.1 hne) h1
  cases h1
 rename_i hw
 rw [if_neg hw] at h1
 exact e1 _ _ h1
theorem AWP.one {fuel i : Nat} {listed : Array Bool} (hr : Region.ready .any ops listed = [i]) (hi : ops[i]? = some o) (h : AWL cx ops [o] (AWP cx ops fuel (listed.setIfInBounds i true) K) env S) : AWP cx ops (fuel + 1) listed K env S := by
 intro a w hs
 refine wpAny_all hr (by simp) fun j hj => ?_
 rw [List.mem_singleton] at hj
 subst hj
 exact wpOp_of_AWL hi h (fun _ _ a w h1 h2 => h1 a w h2) hs
theorem AWP.two {fuel i j : Nat} {o' : Oper} {listed : Array Bool} (hr : Region.ready .any ops listed = [i, j]) (hi : ops[i]? = some o) (hj : ops[j]? = some o') (h : AWL cx ops [o] (AWP cx ops fuel (listed.setIfInBounds i true) K) env S) (h' : AWL cx ops [o'] (AWP cx ops fuel (listed.setIfInBounds j true) K) env S) : AWP cx ops (fuel + 1) listed K env S := by
 intro a w hs
 refine wpAny_all hr (by simp) fun q hq => ?_
 simp only [List.mem_cons, List.not_mem_nil, or_false] at hq
 rcases hq with rfl | rfl
 ·exact wpOp_of_AWL hi h (fun _ _ a w h1 h2 => h1 a w h2) hs
 exact wpOp_of_AWL hj h' (fun _ _ a w h1 h2 => h1 a w h2) hs
theorem AWP.take {fuel i : Nat} {listed : Array Bool} {t : T} (hi : ops[i]? = some o) (hs : Region.noSelect ops = true) (hf : Region.free .any ops listed i = true) (hr : (Region.ready .any ops listed).contains i = true) (hg : o.guard = none) (hd : o.dst = some d) (hN : d < cx.N)
    (hy : ∀ a w, Sim cx env S a w → ∃ u, VRep w (cx.X ++ M S) t u ∧ ∀ w', (execOp a.eval o).run cx.P w' = .ok (.value u) w') (h : AWP cx ops fuel (listed.setIfInBounds i true) K ((d, true, t) :: env) S) : AWP cx ops (fuel + 1) listed K env S := by
 intro a w hsim
 obtain ⟨u, h1, h2⟩ := hy a w hsim
 refine wpAny_take (v := u) hi hs hf hr (fun c a w hq => absurd hq.1 (by simp)) (.inl ⟨wanted_none hg, h2⟩) ?_
 rw [hd]
 exact h _ _ (hsim.put hN (fun _ => h1) (by simp))
theorem freeMove {t : T} (ho : o.op = .move x) (hx : Ev env true x t) : ∀ a w, Sim cx env S a w → ∃ u, VRep w (cx.X ++ M S) t u ∧ ∀ w', (execOp a.eval o).run cx.P w' = .ok (.value u) w' :=
 fun a w hs => ⟨a.eval x, hx.rep hs rfl, fun w' => by simp [execOp, ho, Sem.run_pure]⟩
theorem freeField {s : TypeId} {i off b p : Nat} (ho : o.op = .fieldAddr s x i) (h : fieldOff cx.P s i = some off) (hx : Ev env true x (.v (.pointer (some ⟨b, p, none⟩)))) : ∀ a w, Sim cx env S a w → ∃ u, VRep w (cx.X ++ M S) (.v (.pointer (some ⟨b, p + off, none⟩))) u ∧ ∀ w', (execOp a.eval o).run cx.P w' = .ok (.value u) w' :=
 fun a w hs => ⟨_, .v _, fun w' => by
  rw [exec_fieldAddr ho h (hx.val hs rfl)]
  unfold Addr.add
  split
  ·rename_i h0; subst h0; rfl
  ·rfl⟩
theorem AW.loop5 {α β γ δ ε : Type} {c : Code} (E : α → β → γ → δ → ε → Env) (H : α → β → γ → δ → ε → St) (inv : α → β → γ → δ → ε → Prop) (μ : α → β → γ → δ → ε → Nat) (x₀ : α) (y₀ : β) (z₀ : γ) (u₀ : δ) (v₀ : ε) (h₀ : inv x₀ y₀ z₀ u₀ v₀) (he : Sub (E x₀ y₀ z₀ u₀ v₀) env) (hS : S = H x₀ y₀ z₀ u₀ v₀)
    (round : ∀ x y z u v, inv x y z u v → AW cx c (thenQ (fun env' S' => ∃ x' y' z' u' v', inv x' y' z' u' v' ∧ μ x' y' z' u' v' < μ x y z u v ∧ Sub (E x' y' z' u' v') env' ∧ S' = H x' y' z' u' v') Q) (E x y z u v) (H x y z u v)) : AW cx (.loop c) Q env S := by
 refine AW.loop4 (α := α × β) (fun q => E q.1 q.2) (fun q => H q.1 q.2) (fun q => inv q.1 q.2) (fun q => μ q.1 q.2) (x₀, y₀) z₀ u₀ v₀ h₀ he hS fun q z u v hq => (round q.1 q.2 z u v hq).mono ?_
 intro e env' S' h
 cases e with
 | normal => obtain ⟨x', y', z', u', v', h⟩ := h; exact ⟨(x', y'), z', u', v', h⟩
 | _ => exact h
theorem AWL.unguard {j dj : Nat} {b want : Bool} (hg : o.guard = some (j, want)) (hj : (ops[j]?).bind (·.dst) = some dj) (hk : get dj env = some (true, .v (.bool b))) (hb : b = want) (h : AWL cx ops ({ o with guard := none } :: l) K env S) : AWL cx ops (o :: l) K env S := by
 intro a w hs
 have h1 := h a w hs
 unfold wpList at h1 ⊢
 rw [if_pos (wanted_none (o := { o with guard := none }) rfl)] at h1
 have hw : Region.wanted o (yielded ops a.tmps) = true := by
  have h2 := yielded_slot (ops := ops) (a := a) hj ((hs.slots dj true _ hk).1 rfl).v_inv
  simp only [Region.wanted, hg, h2, boolOf, hb]
  simp
 rw [if_pos hw]
 exact h1
end
end Go.Proofs.YtecpjlhbkmongaaGreat

namespace Go.Proofs.YtecpjlhbkmongaaGreat
open Go Go.RowKit

def Le (t t' : T) : Prop := ∀ w L u, VRep w L t u → VRep w L t' u
structure Les (l l' : List T) : Prop where
 len : l.length = l'.length
 at_ : ∀ (j : Nat) (t t' : T), l[j]? = some t → l'[j]? = some t' → Le t t'
theorem Le.refl {t : T} : Le t t := fun _ _ _ h => h
theorem Les.refl {l : List T} : Les l l := ⟨rfl, fun j t t' h h' => by rw [h] at h'; cases h'; exact .refl⟩
theorem Les.cons {t t' : T} {l l' : List T} (h : Le t t') (hr : Les l l') : Les (t :: l) (t' :: l') :=
 ⟨by simp [hr.len], fun j a b h1 h2 => by
  cases j with
  | zero =>
   simp only [List.getElem?_cons_zero, Option.some.injEq] at h1 h2
   subst h1; subst h2; exact h
  | succ j => exact hr.at_ j a b (by simpa using h1) (by simpa using h2)⟩
theorem Les.rep {w : World} {L : List Nat} {l l' : List T} {us : List Value} (h : Les l l') (hl : l.length = us.length) (hh : ∀ (j : Nat) (t : T) (u : Value), l[j]? = some t → us[j]? = some u → VRep w L t u) :
    ∀ (j : Nat) (t : T) (u : Value), l'[j]? = some t → us[j]? = some u → VRep w L t u := fun j t u h1 h2 => by
 have hj : j < l.length := by
  rw [hl]
  exact (List.getElem?_eq_some_iff.1 h2).1
 exact h.at_ j l[j] t (List.getElem?_eq_getElem hj) h1 w L u (hh j _ u (List.getElem?_eq_getElem hj) h2)
theorem Le.agg {l l' : List T} (h : Les l l') : Le (.agg l) (.agg l') := fun w L u hu => by
 cases hu with
 | agg hl hh h1 => exact .agg (h.len ▸ hl) (h.rep hl hh) h1
theorem Le.sl {k : Nat} {l l' : List T} (h : Les l l') : Le (.sl k l) (.sl k l') := fun w L u hu => by
 cases hu with
 | sl0 hc =>
  obtain rfl : l' = [] := List.eq_nil_of_length_eq_zero h.len.symm
  exact .sl0 hc
 | sl hn hk hl hnc hc hb hL hcell hh h1 => exact .sl hn (h.len ▸ hk) (h.len ▸ hl) hnc hc hb hL hcell (h.rep hl hh) h1

section
variable {cx : Cx} {env : Env} {S : St} {o : Oper} {g : Bool} {x y z : Operand} {ops : Array Oper} {l : List Oper} {K : Env → St → Prop} {Q : Exit → Env → St → Prop} {d : Nat}

/-! ### stores into rows -/
theorem RowIs.write {w : World} {e : TypeId} {size n c gb : Nat} {us vs : List Value} {P : Program} (h : RowIs w e size (some ⟨gb, 0, none⟩) n c us) (h1 : ∀ u ∈ vs, u.oneCell' = true) {p : Nat} (hp : p + vs.length ≤ us.length) :
    (storeCells ⟨gb, p, none⟩ vs 0).run P w = .ok () (w.setCells gb p vs) ∧ RowIs (w.setCells gb p vs) e size (some ⟨gb, 0, none⟩) n c (us.take p ++ vs ++ us.drop (p + vs.length)) := by
 obtain ⟨r1, r2, r3, r4⟩ := h
 rcases r4 with ⟨h0, _⟩ | ⟨g', cur, fr, hA, hh, hfr, hsz, htk⟩
 ·cases h0
 simp only [Option.some.injEq, Addr.mk.injEq, and_true] at hA
 subst hA
 have hle : us.length ≤ cur.size := by
  rw [r1, hsz]
  exact Nat.mul_le_mul_right _ r3
 have hcell : ∀ j, j < vs.length → (w.cell? ⟨gb, p + 0 + j, none⟩).isSome = true := fun j hj => by
  rw [cell_of_row w gb _ cur e fr hh, Array.getElem?_eq_getElem (by omega)]
  rfl
 have hfro : ∀ j, j < vs.length → w.frozen? ⟨gb, p + 0 + j, none⟩ = false := fun j hj => by
  obtain ⟨lo, hi'⟩ := fr
  simp only [World.frozen?, hh]
  simp only at hfr
  rcases hfr with h | h <;> (simp; intro h'; omega)
 have hst := run_storeCells_cells (P := P) gb p vs 0 w hcell hfro h1
 obtain ⟨cur', c1, c2⟩ := setCells_heap gb vs p w cur hh (by omega)
 have hsz' : cur'.size = cur.size := by
  have := congrArg List.length c2
  simp at this
  omega
 refine ⟨by simpa using hst, ?_, r2, r3, .inr ⟨gb, cur', fr, rfl, c1, by rw [hsz']; exact hfr, by rw [hsz', hsz], ?_⟩⟩
 ·simp only [List.length_append, List.length_take, List.length_drop]; omega
 rw [c2]
 have e1 : cur.toList.take p = us.take p := by rw [← htk, List.take_take, Nat.min_eq_left (by omega)]
 have e2 : (cur.toList.drop (p + vs.length)).take (n * size - (p + vs.length)) = us.drop (p + vs.length) := by rw [← htk, List.drop_take]
 rw [List.take_append, List.take_of_length_le (by simp only [List.length_append, List.length_take]; omega), e1]
 congr 1
 rw [← e2]
 congr 1
 simp only [List.length_append, List.length_take]
 omega
theorem RowIs.some {w : World} {e : TypeId} {size n c : Nat} {us : List Value} {A : Option Addr} (h : RowIs w e size A n c us) (hn : 0 < us.length) : ∃ gb, A = Option.some ⟨gb, 0, none⟩ := by
 rcases h.2.2.2 with ⟨_, rfl, _⟩ | ⟨gb, _, _, h, _⟩
 ·have := h.1
  omega
 exact ⟨gb, h⟩
theorem Sim.wrote {a : Act} {w : World} (hs : Sim cx env S a w) {i n c size gb p : Nat} {e : TypeId} {cs ns : List T} {us vs : List Value} (hi : S[i]? = some (.row (some ⟨gb, 0, none⟩) n c e size cs)) (hV : VReps w (cx.X ++ M S) cs us) (hv : VReps w (cx.X ++ M S) ns vs)
    (hr : RowIs (w.setCells gb p vs) e size (some ⟨gb, 0, none⟩) n c (us.take p ++ vs ++ us.drop (p + vs.length))) : Sim cx env (S.set i (.row (some ⟨gb, 0, none⟩) n c e size (cs.take p ++ ns ++ cs.drop (p + ns.length)))) a (w.setCells gb p vs) := by
 obtain ⟨s1, s2, s3, s4, s5⟩ := setCells_rest gb vs p w
 have hk : ∀ b, b < w.heap.size → (Ent.row (some ⟨gb, 0, none⟩) n c e size cs).blk ≠ some b → (w.setCells gb p vs).heap[b]? = w.heap[b]? := fun b _ hne => s5 b (fun e => hne (by subst e; rfl))
 refine hs.swap hi (fun b hb => .inl hb) hk (Nat.le_of_eq s1.symm) s2 s3 s4 (fun L hL => ⟨_, hr, ?_⟩)
 have hb' : ∀ b, b < w.heap.size → b ∉ cx.X ++ M S → (w.setCells gb p vs).heap[b]? = w.heap[b]? := fun b hlt hm => s5 b (fun h => hm (List.mem_append.2 (.inr (mem_M.2 ⟨_, List.mem_of_getElem? hi, by subst h; rfl⟩))))
 have hV' := ((hV.take p).append hv).append (hV.drop (p + vs.length))
 rw [← hv.len] at hV' ⊢
 exact hV'.mono (Nat.le_of_eq s1.symm) hb' hL
theorem AWL.storeEp {t e : TypeId} {m p i n c size : Nat} {f : Bool} {A : Option Addr} {cs : List T} {r : T} (hg : o.guard = none) (hd : o.dst = none) (ho : o.op = .store t x y) (h : aggSize cx.P t = some (f, m)) (hi : S[i]? = some (.row A n c e size cs))
    (hx : Ev env true x (.ep (.slice A n c) p)) (hy : Ev env true y r) (hc : r.cellish = true) (hn : (cellsT r).length = m) (hm : 0 < m) (hp : p + m ≤ cs.length)
    (hr : AWL cx ops l K env (S.set i (.row A n c e size (cs.take p ++ cellsT r ++ cs.drop (p + m))))) : AWL cx ops (o :: l) K env S := by
 refine AWL.eff0 hg hd fun a w hs => ?_
 have hv := (hy.rep hs rfl).cells hc
 obtain ⟨us, hrow, hV⟩ := hs.row hi
 have hlen : (a.eval y).cells.toList.length = m := by rw [← hv.len, hn]
 have hus : us.length = cs.length := hV.len.symm
 obtain ⟨gb, rfl⟩ := hrow.some (by omega)
 have hxv := hx.rep hs rfl
 generalize hux : a.eval x = ux at hxv
 cases hxv with
 | ep =>
  obtain ⟨hst, hrow'⟩ := hrow.write (P := cx.P) hv.one (p := p) (by rw [hlen]; omega)
  have hsim := hs.wrote hi hV hv hrow'
  rw [hn] at hsim
  refine ⟨_, _, ?_, hsim, hr⟩
  have hsz : (a.eval y).cells.size = m := by simpa using hlen
  simp [execOp, ho, hux, Instr.storeAt, Instr.sureAddr, storeVar, (aggSize_spec h w).2, hsz, Sem.run_bind, Sem.run_pure, hst]
theorem AWL.storeEp1 {t e : TypeId} {p i n c size : Nat} {A : Option Addr} {cs : List T} {r : T} (hg : o.guard = none) (hd : o.dst = none) (ho : o.op = .store t x y) (h : aggSize cx.P t = some (false, 1)) (hi : S[i]? = some (.row A n c e size cs))
    (hx : Ev env true x (.ep (.slice A n c) p)) (hy : Ev env true y r) (hc : r.one = true) (hc' : cellsT r = [r]) (hp : p < cs.length)
    (hr : AWL cx ops l K env (S.set i (.row A n c e size (cs.set p r)))) : AWL cx ops (o :: l) K env S := by
 refine AWL.storeEp hg hd ho h hi hx hy ?_ (by rw [hc']; rfl) (by decide) hp ?_
 ·cases r <;> first | exact hc | rfl
 have e : cs.take p ++ cellsT r ++ cs.drop (p + 1) = cs.set p r := by
  rw [hc', List.set_eq_take_append_cons_drop, if_pos hp, List.append_assoc]
  rfl
 rw [e]
 exact hr
end
end Go.Proofs.YtecpjlhbkmongaaGreat

namespace Go.Proofs.YtecpjlhbkmongaaGreat
open Go Go.RowKit

def getK (k : Key) : List (Key × T) → Option T
 | [] => none
 | e :: r => if e.1 = k then some e.2 else getK k r
def putK (k : Key) (x : T) : List (Key × T) → List (Key × T)
 | [] => [(k, x)]
 | e :: r => if e.1 = k then (k, x) :: r else e :: putK k x r
def goodK : TypeDesc → Key → Bool
 | .string, .s _ => true
 | .int q, .i k _ => decide (q = k)
 | _, _ => false
def mapOf (P : Program) (t : TypeId) : Option (TypeDesc × TypeId × TypeId × Value) :=
 match P.underlying t with
 | some (.map kt et) => match P.underlying kt, P.info? et with
  | some d, some i => match i.zero with
   | some z => if z.oneCell' then some (d, kt, et, z) else none
   | none => none
  | _, _ => none
 | _ => none
theorem mapOf_spec {P : Program} {t kt et : TypeId} {d : TypeDesc} {z : Value} (h : mapOf P t = some (d, kt, et, z)) : P.underlying t = some (.map kt et) ∧ P.underlying kt = some d ∧ z.oneCell' = true ∧ ∃ i, P.info? et = some i ∧ i.zero = some z := by
 unfold mapOf at h
 split at h
 ·split at h
  ·split at h
   ·split at h
    ·simp only [Option.some.injEq, Prod.mk.injEq] at h
     obtain ⟨rfl, rfl, rfl, rfl⟩ := h
     exact ⟨by assumption, by assumption, by assumption, _, by assumption, by assumption⟩
    cases h
   cases h
  cases h
 cases h
theorem bytes_beq (l l' : List UInt8) : ((⟨l.toArray⟩ : ByteArray) == ⟨l'.toArray⟩) = decide (l' = l) := by
 rw [beq_toListBytes, ByteArray.toList_eq, ByteArray.toList_eq]
 rw [Bool.eq_iff_iff]
 simp only [beq_iff_eq, decide_eq_true_eq]
 exact ⟨fun e => e.symm, fun e => e.symm⟩
theorem sameNow_key {d : TypeDesc} {k k' : Key} (h : goodK d k = true) (h' : goodK d k' = true) : Instr.sameNow d k.val k'.val = some (decide (k' = k)) := by
 cases k with
 | s l =>
  cases k' with
  | s l' =>
   cases d <;> simp [goodK] at h
   simp only [Key.val, Instr.sameNow, Key.s.injEq, bytes_beq]
  | i q z => cases d <;> simp [goodK] at h h'
 | i q z =>
  cases k' with
  | s l' => cases d <;> simp [goodK] at h h'
  | i q' z' =>
   cases d <;> simp [goodK] at h h'
   subst h; subst h'
   simp only [Key.val, Instr.sameNow, if_true, Key.i.injEq, true_and, Option.some.injEq]
   rw [Bool.eq_iff_iff]
   simp only [beq_iff_eq, decide_eq_true_eq]
   exact ⟨fun e => e.symm, fun e => e.symm⟩
def idxK (k : Key) : List (Key × T) → Option Nat
 | [] => none
 | e :: r => if e.1 = k then some 0 else (idxK k r).map (· + 1)
theorem findNow_key {d : TypeDesc} {k : Key} (h : goodK d k = true) : ∀ (ms : List MapEntry) (es : List (Key × T)) (i : Nat), ms.map (·.key) = es.map (·.1.val) → (∀ e ∈ es, goodK d e.1 = true) →
    Instr.findNow d k.val ms i = some ((idxK k es).map fun j => (i + j, (ms.getD j default).val))
 | [], [], i, _, _ => rfl
 | [], e :: es, i, h1, _ => by simp at h1
 | m :: ms, [], i, h1, _ => by simp at h1
 | m :: ms, e :: es, i, h1, h2 => by
  simp only [List.map_cons, List.cons.injEq] at h1
  obtain ⟨h3, h4⟩ := h1
  have hs := sameNow_key (k' := e.1) h (h2 e (List.mem_cons_self ..))
  rw [Instr.findNow, h3, hs]
  by_cases he : e.1 = k
  ·simp [idxK, he]
  ·simp only [idxK, he, decide_false, if_false]
   rw [findNow_key h ms es (i + 1) h4 (fun x hx => h2 x (List.mem_cons_of_mem _ hx))]
   cases idxK k es with
   | none => rfl
   | some j => simp only [Option.map_some, List.getD_cons_succ, Option.some.injEq, Prod.mk.injEq, and_true]; omega
theorem getK_idx {k : Key} : ∀ (es : List (Key × T)), getK k es = (idxK k es).bind fun j => (es.map (·.2))[j]?
 | [] => rfl
 | e :: r => by
  rw [getK, idxK]
  split
  ·rfl
  ·rw [getK_idx r]
   cases idxK k r <;> simp
theorem idxK_lt {k : Key} : ∀ {es : List (Key × T)} {j : Nat}, idxK k es = some j → j < es.length ∧ (es.map (·.1))[j]? = some k
 | [], j, h => by cases h
 | e :: r, j, h => by
  rw [idxK] at h
  split at h
  ·rename_i he
   cases h
   exact ⟨by simp, by simp [he]⟩
  ·cases hq : idxK k r with
   | none => rw [hq] at h; cases h
   | some q =>
    rw [hq] at h
    simp only [Option.map_some, Option.some.injEq] at h
    subst h
    have := idxK_lt hq
    exact ⟨by simp only [List.length_cons]; omega, by simpa using this.2⟩
theorem putK_some {k : Key} {x : T} : ∀ {es : List (Key × T)} {j : Nat}, idxK k es = some j → putK k x es = es.set j (k, x)
 | [], j, h => by cases h
 | e :: r, j, h => by
  rw [idxK] at h
  rw [putK]
  split at h
  ·rename_i he
   cases h
   rw [if_pos he]; rfl
  ·rename_i he
   rw [if_neg he]
   cases hq : idxK k r with
   | none => rw [hq] at h; cases h
   | some q =>
    rw [hq] at h
    simp only [Option.map_some, Option.some.injEq] at h
    subst h
    rw [putK_some hq]; rfl
theorem putK_none {k : Key} {x : T} : ∀ {es : List (Key × T)}, idxK k es = none → putK k x es = es ++ [(k, x)]
 | [], _ => rfl
 | e :: r, h => by
  rw [idxK] at h
  rw [putK]
  split at h
  ·cases h
  ·rename_i he
   rw [if_neg he]
   cases hq : idxK k r with
   | none => rw [putK_none hq]; rfl
   | some q => rw [hq] at h; cases h
theorem run_checkKey {P : Program} {kt : TypeId} {d : TypeDesc} {k : Key} (hk : P.underlying kt = some d) (h : goodK d k = true) (em : Bool) (w : World) : (Instr.checkKey em 10000 kt k.val).run P w = .ok () w := by
 rw [show (10000 : Nat) = 9999 + 1 from rfl]
 unfold Instr.checkKey
 simp only [Sem.run_bind, run_underlying hk, Result.andThen]
 cases d <;> cases k <;> simp_all [goodK, Key.val]
theorem run_findKey {P : Program} {kt : TypeId} {d : TypeDesc} {k : Key} {ms : Array MapEntry} {es : List (Key × T)} (hk : P.underlying kt = some d) (h : goodK d k = true) (h1 : ms.toList.map (·.key) = es.map (·.1.val)) (h2 : ∀ e ∈ es, goodK d e.1 = true) (w : World) :
    (Instr.findKey kt k.val ms.toList).run P w = .ok ((idxK k es).map fun j => (j, (ms.toList.getD j default).val)) w := by
 have hf := findNow_key h ms.toList es 0 h1 h2
 simp only [Nat.zero_add] at hf
 simp only [Instr.findKey, Sem.run_bind, run_underlying hk, Result.andThen_ok, hf, Sem.run_pure]
theorem run_getMap {P : Program} {w : World} {b : Nat} {ms : Array MapEntry} {c : Nat} (h : w.heap[b]? = some (.map ms c)) : (getObj b).run P w = .ok (.map ms c) w := by
 simp [getObj, Sem.run, h]
theorem run_setMap {P : Program} {w : World} {b : Nat} {ms : Array MapEntry} {c : Nat} (h : w.heap[b]? = some (.map ms c)) (ob : Obj) : (setObj b ob).run P w = .ok () { w with heap := w.heap.setIfInBounds b ob } := by
 have hb := (Array.getElem?_eq_some_iff.1 h).1
 simp [setObj, Sem.run, h]
theorem sameBits_key (k : Key) : Instr.sameBits 10000 k.val k.val = true := by
 cases k with
 | s l => simp only [Key.val, Instr.sameBits, bytes_beq, decide_true]
 | i q z => simp [Key.val, Instr.sameBits]

section
variable {cx : Cx} {env : Env} {S : St} {o : Oper} {g : Bool} {x y z : Operand} {ops : Array Oper} {l : List Oper} {K : Env → St → Prop} {Q : Exit → Env → St → Prop} {d : Nat}

theorem Sim.mapS {a : Act} {w : World} (hs : Sim cx env S a w) {i b : Nat} {es : List (Key × T)} (hi : S[i]? = some (.map b es)) :
    ∃ (ms : Array MapEntry) (clock : Nat), w.heap[b]? = some (.map ms clock) ∧ ms.toList.map (·.key) = es.map (·.1.val) ∧ VReps w (cx.X ++ M S) (es.map (·.2)) (ms.toList.map (·.val)) ∧ Stamps ms clock := hs.ents _ (List.mem_of_getElem? hi)
theorem Sim.map {a : Act} {w : World} (hs : Sim cx env S a w) {i b : Nat} {es : List (Key × T)} (hi : S[i]? = some (.map b es)) :
    ∃ (ms : Array MapEntry) (clock : Nat), w.heap[b]? = some (.map ms clock) ∧ ms.toList.map (·.key) = es.map (·.1.val) ∧ VReps w (cx.X ++ M S) (es.map (·.2)) (ms.toList.map (·.val)) := by
 obtain ⟨ms, c, h1, h2, h3, _⟩ := hs.mapS hi
 exact ⟨ms, c, h1, h2, h3⟩
theorem stamps_push {ms : Array MapEntry} {c : Nat} (h : Stamps ms c) (k v : Value) : Stamps (ms.push { key := k, val := v, born := c }) (c + 1) := by
 unfold Stamps at h ⊢
 simp only [Array.toList_push, List.map_append, List.map_cons, List.map_nil]
 refine ⟨fun n hn => ?_, ?_⟩
 ·rcases List.mem_append.1 hn with hn | hn
  ·have := h.1 n hn; omega
  rw [List.mem_singleton.1 hn]; omega
 rw [List.nodup_append]
 refine ⟨h.2, by simp, fun p hp q hq => ?_⟩
 have := h.1 p hp
 rw [List.mem_singleton.1 hq]
 omega
theorem stamps_modify {ms : Array MapEntry} {c j : Nat} (h : Stamps ms c) (k v : Value) : Stamps (ms.modify j fun e => { e with key := k, val := v }) c := by
 have e : (ms.modify j fun e => { e with key := k, val := v }).toList.map (·.born) = ms.toList.map (·.born) := by
  rw [Array.toList_modify]
  apply List.ext_getElem?
  intro q
  rw [List.getElem?_map, List.getElem?_map, List.getElem?_modify]
  cases ms.toList[q]? with
  | none => rfl
  | some x =>
   by_cases hq : j = q <;> simp [hq]
 unfold Stamps at h ⊢
 rw [e]
 exact h
theorem AWL.makeMapOp {t : TypeId} (hg : o.guard = none) (hd : o.dst = some d) (hN : d < cx.N) (ho : o.op = .makeMap t none) (hr : ∀ b, AWL cx ops l K ((d, true, .v (.map (some b))) :: env) (S ++ [.map b []])) : AWL cx ops (o :: l) K env S := by
 refine AWL.eff hg hd hN fun a w hs => ?_
 have hka := keeps_alloc w (.map #[] 0)
 refine ⟨.map (some w.heap.size), w.alloc (.map #[] 0), _, _, ?_, hs.add (e := .map w.heap.size []) rfl hka ⟨#[], 0, heap_alloc_new w _, rfl, .nil, by unfold Stamps; simp⟩, .v _, hr _⟩
 simp [execOp, ho, Instr.makeMap, Sem.run_bind, Sem.run_pure, run_newObj]

theorem lookup_run {P : Program} {w : World} {t kt et : TypeId} {dd : TypeDesc} {zv : Value} {k : Key} {b c : Nat} {ms : Array MapEntry} {es : List (Key × T)} (ht : mapOf P t = some (dd, kt, et, zv)) (hk : goodK dd k = true) (h : w.heap[b]? = some (.map ms c)) (h1 : ms.toList.map (·.key) = es.map (·.1.val))
    (h2 : ∀ e ∈ es, goodK dd e.1 = true) (cm : Bool) :
    (Instr.lookup t (.map (some b)) k.val cm).run P w = .ok (let r : Value × Bool := match idxK k es with | some j => ((ms.toList.getD j default).val, true) | none => (zv, false); if cm then .tuple #[r.1, .bool r.2] else r.1) w := by
 obtain ⟨e1, e2, _, i, e3, e4⟩ := mapOf_spec ht
 have hf := fun w => run_findKey (P := P) (ms := ms) (es := es) e2 hk h1 h2 w
 have hz : ∀ w : World, (zeroValue et).run P w = .ok zv w := fun w => by simp [zeroValue, typeInfo, e3, e4, Sem.run_bind, Sem.run_pure]
 have hc := fun em w => run_checkKey (P := P) e2 hk em w
 cases hj : idxK k es with
 | none =>
  have hf' := hf w
  rw [hj] at hf'
  simp only [Instr.lookup, Sem.run_bind, run_underlying e1, Result.andThen_ok, run_getMap h, hc, Sem.run_pure, hf', Option.map_none, hz]
 | some j =>
  have hf' := hf w
  rw [hj] at hf'
  simp only [Instr.lookup, Sem.run_bind, run_underlying e1, Result.andThen_ok, run_getMap h, hc, Sem.run_pure, hf', Option.map_some]
theorem lookup_rep {w : World} {L : List Nat} {k : Key} {ms : Array MapEntry} {es : List (Key × T)} {zv : Value} (hV : VReps w L (es.map (·.2)) (ms.toList.map (·.val))) :
    VRep w L ((getK k es).getD (.v zv)) (match idxK k es with | some j => (ms.toList.getD j default).val | none => zv) ∧ (getK k es).isSome = (idxK k es).isSome := by
 rw [getK_idx]
 cases hj : idxK k es with
 | none => exact ⟨.v _, rfl⟩
 | some j =>
  have hl := (idxK_lt hj).1
  have hml : j < ms.toList.length := by
   have := hV.len
   simp only [List.length_map] at this
   omega
  have e1 : (es.map (·.2))[j]? = some es[j].2 := by simp [hl]
  have e3 : ms.toList.getD j default = ms.toList[j] := by simp only [List.getD, List.getElem?_eq_getElem hml, Option.getD_some]
  have e2 : (ms.toList.map (·.val))[j]? = some (ms.toList.getD j default).val := by rw [List.getElem?_map, List.getElem?_eq_getElem hml, e3]; rfl
  refine ⟨?_, ?_⟩
  ·simp only [Option.bind_some, e1, Option.getD_some]
   exact hV.at_ j _ _ e1 e2
  ·simp only [Option.bind_some, e1]; rfl
theorem Yv.lookup1 {t kt et : TypeId} {dd : TypeDesc} {zv : Value} {k : Key} {i b : Nat} {es : List (Key × T)} (ho : o.op = .lookup t x y false) (ht : mapOf cx.P t = some (dd, kt, et, zv)) (hi : S[i]? = some (.map b es)) (hx : Ev env g x (.v (.map (some b)))) (hy : Ev env g y (.v k.val))
    (hk : goodK dd k = true) (h2 : ∀ e ∈ es, goodK dd e.1 = true) : Yv cx o env S g ((getK k es).getD (.v zv)) := by
 intro a w hs hg
 obtain ⟨ms, c, hh, h1, hV⟩ := hs.map hi
 obtain ⟨r1, r2⟩ := lookup_rep (zv := zv) (k := k) hV
 have hb : b < w.heap.size := lt_of_heap hh
 refine ⟨_, r1, fun w' hkp => ?_⟩
 have hh' : w'.heap[b]? = some (.map ms c) := (hkp.block b hb (by simp)).trans hh
 have hrun := lookup_run (P := cx.P) ht hk hh' h1 h2 false
 simp only [execOp, ho, hx.val hs hg, hy.val hs hg, Sem.run_bind, hrun, Sem.run_pure, Result.andThen_ok]
 cases idxK k es <;> rfl
theorem Yv.eqT {t t' : T} (h : Yv cx o env S g t) (e : t = t') : Yv cx o env S g t' := e ▸ h
theorem map_modify_key {k : Key} {v : Value} {ms : Array MapEntry} {es : List (Key × T)} {j : Nat} (h1 : ms.toList.map (·.key) = es.map (·.1.val)) (hj : idxK k es = some j) (r : T) :
    (ms.modify j fun e => { e with key := k.val, val := v }).toList.map (·.key) = (putK k r es).map (·.1.val) ∧ (ms.modify j fun e => { e with key := k.val, val := v }).toList.map (·.val) = (ms.toList.map (·.val)).set j v := by
 obtain ⟨hl, hk⟩ := idxK_lt hj
 have hml : j < ms.size := by
  have := congrArg List.length h1
  simp at this
  omega
 rw [putK_some hj]
 simp only [Array.toList_modify]
 refine ⟨?_, ?_⟩
 ·apply List.ext_getElem?
  intro q
  have hq := congrArg (fun l : List Value => l[q]?) h1
  simp only [List.getElem?_map] at hq
  simp only [List.getElem?_map, List.getElem?_modify, List.getElem?_set]
  by_cases e : j = q
  ·subst e
   simp [hl, hml]
  simp only [e, if_false]
  cases hm : ms.toList[q]? with
  | none => rw [hm] at hq; simpa using hq
  | some m => rw [hm] at hq; simpa using hq
 apply List.ext_getElem?
 intro q
 simp only [List.getElem?_map, List.getElem?_modify, List.getElem?_set, List.length_map]
 by_cases e : j = q
 ·subst e
  simp [hml]
 simp only [e, if_false]
 cases ms.toList[q]? <;> rfl
theorem AWL.mapUpd {t kt et : TypeId} {dd : TypeDesc} {zv : Value} {k : Key} {i b : Nat} {es : List (Key × T)} {r : T} (hg : o.guard = none) (hd : o.dst = none) (ho : o.op = .mapUpdate t x y z ∨ o.op = .insert t x y z) (ht : mapOf cx.P t = some (dd, kt, et, zv)) (hi : S[i]? = some (.map b es))
    (hx : Ev env true x (.v (.map (some b)))) (hy : Ev env true y (.v k.val)) (hz : Ev env true z r) (hr1 : r.one = true) (hk : goodK dd k = true) (h2 : ∀ e ∈ es, goodK dd e.1 = true)
    (hr : AWL cx ops l K env (S.set i (.map b (putK k r es)))) : AWL cx ops (o :: l) K env S := by
 refine AWL.eff0 hg hd fun a w hs => ?_
 obtain ⟨ms, c, hh, h1, hV, hst⟩ := hs.mapS hi
 obtain ⟨e1, e2, _, _⟩ := mapOf_spec ht
 have hv := hz.rep hs rfl
 have hv1 := hv.one hr1
 have hf := run_findKey (P := cx.P) (ms := ms) (es := es) e2 hk h1 h2 w
 have hc := run_checkKey (P := cx.P) e2 hk false w
 have hb : b < w.heap.size := lt_of_heap hh
 have hbM : b ∈ cx.X ++ M S := List.mem_append.2 (.inr (mem_M.2 ⟨_, List.mem_of_getElem? hi, rfl⟩))
 have main : ∃ (ms' : Array MapEntry) (c' : Nat), (Instr.mapUpdate t (.map (some b)) k.val (a.eval z)).run cx.P w = .ok () { w with heap := w.heap.setIfInBounds b (.map ms' c') } ∧ ms'.toList.map (·.key) = (putK k r es).map (·.1.val) ∧ VReps w (cx.X ++ M S) ((putK k r es).map (·.2)) (ms'.toList.map (·.val)) ∧ Stamps ms' c' := by
  cases hj : idxK k es with
  | none =>
   refine ⟨ms.push { key := k.val, val := a.eval z, born := c }, c + 1, ?_, ?_, ?_, stamps_push hst _ _⟩
   ·rw [hj] at hf
    simp only [Instr.mapUpdate, Sem.run_bind, run_underlying e1, Result.andThen_ok, run_getMap hh, hc, hf, Option.map_none, run_setMap hh]
   ·rw [putK_none hj]
    simp [h1]
   ·rw [putK_none hj]
    simp only [Array.toList_push, List.map_append, List.map_cons, List.map_nil]
    exact hV.append (.cons hv hv1 .nil)
  | some j =>
   obtain ⟨hl, hkj⟩ := idxK_lt hj
   have hml : j < ms.size := by
    have := congrArg List.length h1
    simp at this
    omega
   have hkey : (((ms[j]?).map (·.key)).getD k.val) = k.val := by
    have := congrArg (fun l : List Value => l[j]?) h1
    simp only [List.getElem?_map] at this
    rw [List.getElem?_map] at hkj
    obtain ⟨e, he, hek⟩ := Option.map_eq_some_iff.1 hkj
    rw [he] at this
    simp only [Option.map_some, hek] at this
    rw [← Array.getElem?_toList, this]
    rfl
   refine ⟨ms.modify j fun e => { e with key := k.val, val := a.eval z }, c, ?_, (map_modify_key h1 hj r).1, ?_, stamps_modify hst _ _⟩
   ·rw [hj] at hf
    simp only [Instr.mapUpdate, Sem.run_bind, run_underlying e1, Result.andThen_ok, run_getMap hh, hc, hf, Option.map_some, Instr.keyThatStays, hkey, sameBits_key, if_true, Sem.run_pure, run_setMap hh]
   ·rw [(map_modify_key (v := a.eval z) h1 hj r).2, putK_some hj, List.map_set]
    exact hV.set j hv hv1
 obtain ⟨ms', c', hrun, h3, h4, h5⟩ := main
 refine ⟨{ w with heap := w.heap.setIfInBounds b (.map ms' c') }, _, ?_, ?_, hr⟩
 ·rcases ho with ho | ho <;> simp only [execOp, ho, hx.val hs rfl, hy.val hs rfl, Sem.run_bind, hrun, Sem.run_pure, Result.andThen_ok]
 have hother : ∀ q, q ≠ b → ({ w with heap := w.heap.setIfInBounds b (.map ms' c') } : World).heap[q]? = w.heap[q]? := fun q hq => by simp [Array.getElem?_setIfInBounds, Ne.symm hq]
 refine hs.setEnt hi rfl (fun q _ hne => hother q (fun e => hne (by rw [e]; rfl))) (by simp) rfl rfl rfl ⟨ms', c', by simp [hb], h3, ?_, h5⟩
 exact h4.mono (by simp) (fun q _ hm => hother q (fun e => hm (e ▸ hbM))) (fun _ _ hm => hm)
end
end Go.Proofs.YtecpjlhbkmongaaGreat

namespace Go.Proofs.YtecpjlhbkmongaaGreat
open Go Go.RowKit

def sv (l : List UInt8) : T := .v (.string ⟨l.toArray⟩)
section
variable {cx : Cx} {env : Env} {S : St} {o : Oper} {g : Bool} {x y z : Operand} {ops : Array Oper} {l : List Oper} {K : Env → St → Prop} {Q : Exit → Env → St → Prop} {d : Nat}

theorem Yv.lenL {ty : TypeId} {s : List UInt8} (ho : o.op = .call { callee := .builtin .len, args := #[x], argTypes := #[ty] }) (ht : isStr cx.P ty = true) (hx : Ev env g x (sv s)) : Yv cx o env S g (.v (.int .i64 (s.length : Int))) := Yv.lenS ho ht hx
theorem Yv.nilChk {a : Addr} (ho : o.op = .nilCheck x) (hx : Ev env g x (.v (.pointer (some a)))) : Yv cx o env S g (.v (.pointer (some a))) :=
 Yv.plain fun ac w hs hg w' => by simp [execOp, ho, hx.val hs hg, Sem.run_pure]
theorem freeNil {a : Addr} (ho : o.op = .nilCheck x) (hx : Ev env true x (.v (.pointer (some a)))) : ∀ ac w, Sim cx env S ac w → ∃ u, VRep w (cx.X ++ M S) (.v (.pointer (some a))) u ∧ ∀ w', (execOp ac.eval o).run cx.P w' = .ok (.value u) w' :=
 fun ac w hs => ⟨_, .v _, fun w' => by simp [execOp, ho, hx.val hs rfl, Sem.run_pure]⟩
def ptrOf (P : Program) (t : TypeId) : Bool := match P.underlying t with | some (.pointer _) => true | _ => false
theorem ptrOf_spec {P : Program} {t : TypeId} (h : ptrOf P t = true) : P.underlying t = some (.pointer (P.pointee t)) := by
 unfold ptrOf at h
 unfold Program.pointee
 split at h
 ·rename_i e; rw [e]
 cases h
theorem Yv.eqlNilP {ty yt : TypeId} {a : Option Addr} (ho : o.op = .binOp .eql ty x (.const (.pointer none)) yt) (ht : ptrOf cx.P ty = true) (hx : Ev env g x (.v (.pointer a))) : Yv cx o env S g (.v (.bool a.isNone)) :=
 Yv.plain fun ac w hs hg w' => by
  have h := run_eql_pointer_nil (P := cx.P) w' ty a (ptrOf_spec ht)
  simp only [execOp, ho, hx.val hs hg, Sem.run_bind]
  simp [eqGuard, Act.eval, h, Sem.run_pure, Sem.run_bind]
theorem Yv.neqNilP {ty yt : TypeId} {a : Option Addr} (ho : o.op = .binOp .neq ty x (.const (.pointer none)) yt) (ht : ptrOf cx.P ty = true) (hx : Ev env g x (.v (.pointer a))) : Yv cx o env S g (.v (.bool (!a.isNone))) :=
 Yv.plain fun ac w hs hg w' => by
  have h := run_neq_pointer_nil (P := cx.P) w' ty a (ptrOf_spec ht)
  simp only [execOp, ho, hx.val hs hg, Sem.run_bind]
  simp [eqGuard, Act.eval, h, Sem.run_pure, Sem.run_bind]
def arrOf (P : Program) (t : TypeId) : Option (Nat × Nat) :=
 match P.underlying t with
 | some (.array n e) => (P.info? e).map fun i => (n, i.size)
 | _ => none
theorem arrOf_spec {P : Program} {t : TypeId} {n k : Nat} (h : arrOf P t = some (n, k)) : ∃ e i, P.underlying t = some (.array n e) ∧ P.info? e = some i ∧ i.size = k := by
 unfold arrOf at h
 split at h
 ·rename_i n' e he
  cases hi : P.info? e with
  | none => rw [hi] at h; cases h
  | some i =>
   rw [hi] at h
   simp only [Option.map_some, Option.some.injEq, Prod.mk.injEq] at h
   obtain ⟨rfl, rfl⟩ := h
   exact ⟨e, i, he, hi, rfl⟩
 cases h
theorem Yv.indexArr {t : TypeId} {n k j b p : Nat} {kd : IntKind} {q : Int} (ho : o.op = .indexAddr t x y) (h : arrOf cx.P t = some (n, k)) (hx : Ev env g x (.v (.pointer (some ⟨b, p, none⟩)))) (hy : Ev env g y (.v (.int kd q))) (hj : g = true → q = (j : Int) ∧ j < n) : Yv cx o env S g (.v (.pointer (some ⟨b, p + j * k, none⟩))) :=
 Yv.plain fun ac w hs hg w' => by
  obtain ⟨rfl, hjl⟩ := hj hg
  obtain ⟨e, i, h1, h2, h3⟩ := arrOf_spec h
  have e1 : ((j : Int) < (n : Int)) := by omega
  simp [execOp, ho, hx.val hs hg, hy.val hs hg, Instr.indexAt, asIntOf, Sem.run_bind, Sem.run_pure, run_underlying h1, sizeOf, typeInfo, h2, h3, Instr.sureAddr, add_lit']
  intro h'
  omega
theorem freeArr {t : TypeId} {n k j b p : Nat} {kd : IntKind} {q : Int} (ho : o.op = .indexAddr t x y) (h : arrOf cx.P t = some (n, k)) (hx : Ev env true x (.v (.pointer (some ⟨b, p, none⟩)))) (hy : Ev env true y (.v (.int kd q))) (hj : q = (j : Int) ∧ j < n) :
    ∀ ac w, Sim cx env S ac w → ∃ u, VRep w (cx.X ++ M S) (.v (.pointer (some ⟨b, p + j * k, none⟩))) u ∧ ∀ w', (execOp ac.eval o).run cx.P w' = .ok (.value u) w' :=
 fun ac w hs => by
  obtain ⟨rfl, hjl⟩ := hj
  obtain ⟨e, i, h1, h2, h3⟩ := arrOf_spec h
  refine ⟨_, .v _, fun w' => ?_⟩
  simp [execOp, ho, hx.val hs rfl, hy.val hs rfl, Instr.indexAt, asIntOf, Sem.run_bind, Sem.run_pure, run_underlying h1, sizeOf, typeInfo, h2, h3, Instr.sureAddr, add_lit']
  intro h'
  omega
theorem Yv.min2 {t1 t2 : TypeId} {k : IntKind} {p q : Int} (ho : o.op = .call { callee := .builtin .min, args := #[x, y], argTypes := #[t1, t2] }) (hx : Ev env g x (.v (.int k p))) (hy : Ev env g y (.v (.int k q))) : Yv cx o env S g (.v (.int k (if q < p then q else p))) :=
 Yv.plain fun ac w hs hg w' => by
  simp [execOp, ho, resolve, invoke, builtin, Sem.run_bind, Sem.run_pure, Builtin.min_, Builtin.min2, hx.val hs hg, hy.val hs hg]
end
end Go.Proofs.YtecpjlhbkmongaaGreat

namespace Go.Proofs.YtecpjlhbkmongaaGreat
open Go Go.RowKit
section
variable {cx : Cx} {env : Env} {S : St} {o : Oper} {g : Bool} {x y z : Operand} {ops : Array Oper} {l : List Oper} {K : Env → St → Prop} {Q : Exit → Env → St → Prop} {d : Nat}
theorem AW.eqS {code : Code} {S' : St} (e : S = S') (h : AW cx code Q env S') : AW cx code Q env S := e ▸ h
theorem AWL.callAll {f : FuncId} {xf : Operand} {xs : Array Operand} {ats : Array TypeId} {fst cap : Array Value} {ts : List T} {R : T → St → Prop} (hg : o.guard = none) (hd : o.dst = some d) (hN : d < cx.N)
    (ho : o.op = .call { callee := .value xf, args := xs, argTypes := ats }) (hf : calleeB cx.P f = true) (hx : Ev env true xf (.v (.func (.func f) fst cap))) (hxs : Evs env true xs.toList ts)
    (hc : ACalls cx.P f (fst.toList.map T.v ++ (ts ++ cap.toList.map T.v)) S R) (hr : ∀ t S', R t S' → AWL cx ops l K ((d, true, t) :: env) S') : AWL cx ops (o :: l) K env S :=
 AWL.call hg hd hN ho hf hx hxs (S1 := S) (S2 := []) (List.append_nil S).symm hc (fun t S' h => by rw [List.append_nil]; exact hr t S' h)
end
end Go.Proofs.YtecpjlhbkmongaaGreat

namespace Go.Proofs.YtecpjlhbkmongaaGreat
open Go Go.RowKit

section
variable {cx : Cx} {env : Env} {S : St} {o : Oper} {g : Bool} {x y z : Operand} {ops : Array Oper} {l : List Oper} {K : Env → St → Prop} {d : Nat}

def valsOf : List T → Option (List Value)
 | [] => some []
 | .v u :: r => (valsOf r).map (u :: ·)
 | _ :: _ => none
theorem valsOf_spec : ∀ {l : List T} {us : List Value}, valsOf l = some us → l = us.map T.v
 | [], us, h => by simp only [valsOf, Option.some.injEq] at h; subst h; rfl
 | .v u :: r, us, h => by
  simp only [valsOf, Option.map_eq_some_iff] at h
  obtain ⟨vs, h1, rfl⟩ := h
  rw [valsOf_spec h1]; rfl
 | .agg _ :: _, _, h => by simp [valsOf] at h
 | .tup _ :: _, _, h => by simp [valsOf] at h
 | .sl _ _ :: _, _, h => by simp [valsOf] at h
 | .rp _ _ :: _, _, h => by simp [valsOf] at h
 | .ep _ _ :: _, _, h => by simp [valsOf] at h
 | .sp _ _ _ :: _, _, h => by simp [valsOf] at h
theorem VRep.vals {w : World} {L : List Nat} {us : List Value} {u : Value} (h : VRep w L (.agg (us.map T.v)) u) : u = .agg us.toArray := by
 cases h with
 | @agg _ ys hl hh h1 =>
  have : ys = us := by
   apply List.ext_getElem?
   intro j
   rw [List.length_map] at hl
   by_cases hj : j < us.length
   ·have e1 : (us.map T.v)[j]? = some (.v us[j]) := by simp [hj]
    have e2 : ys[j]? = some (ys[j]'(by omega)) := List.getElem?_eq_getElem (by omega)
    have := (hh j _ _ e1 e2).v_inv
    rw [e2, this, List.getElem?_eq_getElem hj]
   ·rw [List.getElem?_eq_none (by omega), List.getElem?_eq_none (by omega)]
  rw [this]

/-! ### equality of structs of plain cells -/
inductive FK where
 | i
 | b
 | s
def fkOf (P : Program) (t : TypeId) : Option FK :=
 match P.underlying t with
 | some (.int _) => some .i
 | some .bool => some .b
 | some .string => some .s
 | _ => none
def flatF (P : Program) : List Field → Option (List (Nat × FK))
 | [] => some []
 | f :: r => if f.name = "_" then none else match aggSize P f.type, fkOf P f.type, flatF P r with
  | some (false, _), some k, some l => some ((f.offset, k) :: l)
  | _, _, _ => none
def flatOf (P : Program) (t : TypeId) : Option (List (Nat × FK)) :=
 match P.underlying t with
 | some (.struct fs) => if P.stoodInHeld t || P.eqGuardType P.depth t then none else flatF P fs.toList
 | _ => none
def eqCell : FK → Value → Value → Option Bool
 | .i, .int a p, .int b q => if a = b then some (decide (p = q)) else none
 | .b, .bool p, .bool q => some (p == q)
 | .s, .string p, .string q => some (decide (p.data.toList = q.data.toList))
 | _, _, _ => none
def eqCells (us vs : List Value) : List (Nat × FK) → Option Bool
 | [] => some true
 | (off, k) :: r => match us[off]?, vs[off]? with
  | some u, some v => match eqCell k u v, eqCells us vs r with
   | some b, some c => some (b && c)
   | _, _ => none
  | _, _ => none
theorem run_part_one {P : Program} {t : TypeId} {n off : Nat} (h : aggSize P t = some (false, n)) {us : List Value} {u : Value} (hu : us[off]? = some u) (w : World) : (part t us.toArray off).run P w = .ok u w := by
 obtain ⟨h1, h2⟩ := aggSize_spec h w
 simp [part, Sem.run_bind, h1, hu, Sem.run_pure]
theorem run_eqCell {P : Program} {t : TypeId} {k : FK} (h : fkOf P t = some k) {u v : Value} {b : Bool} (hb : eqCell k u v = some b) (dd : Nat) (w : World) : (Op.equalIn (dd + 1) t u v).run P w = .ok b w := by
 unfold fkOf at h
 split at h
 ·rename_i k' hu
  simp only [Option.some.injEq] at h; subst h
  cases u <;> cases v <;> simp only [eqCell] at hb <;> try cases hb
  split at hb
  ·rename_i e; subst e
   simp only [Option.some.injEq] at hb; subst hb
   rw [run_equalIn_int w dd t _ _ _ _ hu]
   rfl
  cases hb
 ·rename_i hu
  simp only [Option.some.injEq] at h; subst h
  cases u <;> cases v <;> simp only [eqCell, Option.some.injEq] at hb <;> try cases hb
  exact run_equalIn_bool' w dd t _ _ hu
 ·rename_i hu
  simp only [Option.some.injEq] at h; subst h
  cases u <;> cases v <;> simp only [eqCell, Option.some.injEq] at hb <;> try cases hb
  rename_i p q
  rw [run_equalIn_string w dd t _ _ hu, ByteArray.toList_eq, ByteArray.toList_eq]
  congr 1
  by_cases e : p.data.toList = q.data.toList
  ·simp [e]
  rw [decide_eq_false e]; exact beq_eq_false_iff_ne.2 e
 cases h
theorem run_eqFlat {P : Program} {us vs : List Value} (dd : Nat) (w : World) : ∀ {fs : List Field} {l : List (Nat × FK)} {b : Bool}, flatF P fs = some l → eqCells us vs l = some b → (Op.eqFields (dd + 1) us.toArray vs.toArray fs).run P w = .ok b w
 | [], l, b, h, hb => by
  simp only [flatF, Option.some.injEq] at h; subst h
  simp only [eqCells, Option.some.injEq] at hb; subst hb
  simp [Op.eqFields, Sem.run_pure]
 | f :: r, l, b, h, hb => by
  simp only [flatF] at h
  split at h
  ·cases h
  ·rename_i hn
   split at h
   ·rename_i m k l' h1 h2 h3
    simp only [Option.some.injEq] at h; subst h
    simp only [eqCells] at hb
    split at hb
    ·rename_i u v hu hv
     split at hb
     ·rename_i b1 b2 hb1 hb2
      simp only [Option.some.injEq] at hb; subst hb
      have ih := run_eqFlat dd w h3 hb2
      simp only [Op.eqFields, ne_eq, hn, not_false_eq_true, if_true, Sem.run_bind, run_part_one h1 hu, run_part_one h1 hv, run_eqCell h2 hb1, Result.andThen_ok]
      cases b1
      ·simp [Sem.run_pure]
      ·simp [ih]
     ·cases hb
    ·cases hb
   ·cases h
theorem run_eqA {P : Program} {t : TypeId} {us vs : List Value} {l : List (Nat × FK)} {b : Bool} (ht : flatOf P t = some l) (hb : eqCells us vs l = some b) (w : World) :
    (Op.equalIn 10000 t (.agg us.toArray) (.agg vs.toArray)).run P w = .ok b w ∧ P.eqGuardType P.depth t = false := by
 unfold flatOf at ht
 split at ht
 ·rename_i fs hu
  split at ht
  ·cases ht
  rename_i hn
  simp only [Bool.or_eq_true, not_or, Bool.not_eq_true] at hn
  have hf : P.fieldsOf t = fs := by simp [Program.fieldsOf, hu]
  exact ⟨by rw [run_equalIn_struct w 9999 t _ _ (by rw [hf]; exact hu) hn.1, hf]; exact run_eqFlat 9998 w ht hb, hn.2⟩
 cases ht
theorem exec_binOp_agg {ρ : Operand → Value} {P : Program} {op : BinOp} {ty yt : TypeId} {p q : Array Value} (ho : o.op = .binOp op ty x y yt) (hx : ρ x = .agg p) (hy : ρ y = .agg q) (hm : P.eqGuardType P.depth ty = false) (w : World) :
    (execOp ρ o).run P w = ((binOp op ty (.agg p) (.agg q)).run P w).andThen fun v w => .ok (.value v) w := by
 have h := run_eqGuard_agg (P := P) w op ty x y p q hm
 simp only [execOp, ho, hx, hy, Sem.run_bind, h, Result.andThen_ok, Sem.run_pure]
theorem Yv.neqA {ty yt : TypeId} {l l' : List T} {us vs : List Value} {fl : List (Nat × FK)} {b : Bool} (ho : o.op = .binOp .neq ty x y yt) (ht : flatOf cx.P ty = some fl) (hx : Ev env g x (.agg l)) (hy : Ev env g y (.agg l')) (hu : valsOf l = some us) (hv : valsOf l' = some vs) (hb : eqCells us vs fl = some b) :
    Yv cx o env S g (.v (.bool (!b))) :=
 Yv.plain fun a w hs hg w' => by
  have e1 := hx.rep hs hg
  have e2 := hy.rep hs hg
  rw [valsOf_spec hu] at e1
  rw [valsOf_spec hv] at e2
  obtain ⟨e3, e4⟩ := run_eqA ht hb w'
  rw [exec_binOp_agg ho e1.vals e2.vals e4, run_neq_struct, e3]
  rfl

/-! ### calls that read some entries and leave them -/
theorem call_keeps {f : FuncId} {xf : Operand} {xs : Array Operand} {ats : Array TypeId} {fst cap : Array Value} {ts : List T} {S1 S2 : St} {R : T → St → Prop} {r : Value} (ho : o.op = .call { callee := .value xf, args := xs, argTypes := ats }) (hf : calleeB cx.P f = true)
    (hxf : Ev env g xf (.v (.func (.func f) fst cap))) (hx : Evs env g xs.toList ts) (hS : S = S1 ++ S2) (hc : g = true → ACalls cx.P f (fst.toList.map T.v ++ (ts ++ cap.toList.map T.v)) S1 R) (hq : ∀ t S', R t S' → t = .v r ∧ S' = S1) {a : Act} {w : World} (hs : Sim cx env S a w) (hgt : g = true) :
    ∃ args, (execOp a.eval o).run cx.P w = .ok (.enter f args) w ∧ Calls cx.P f args w fun e w'' => e = .returned r ∧ Sim cx env S a w'' := by
 subst hS
 refine ⟨_, exec_call ho hf (hxf.val hs hgt) w, ?_⟩
 obtain ⟨e1, e2⟩ := hx.spec hs hgt
 obtain ⟨c1, c2, c3, c4⟩ := hs.forCall
 obtain ⟨v1, v2⟩ := vals_spec (fst := fst.toList) (cap := cap.toList) e1 (fun j t u h1 h2 => c4 t u (e2 j t u h1 h2))
 refine (hc hgt (cx.X ++ M S2) w _ c1 c2 c3 v1 v2).mono ?_
 rintro e w' ⟨v, t, S', rfl, hk, hnd, hfr, hent, hv, hR⟩
 obtain ⟨rfl, rfl⟩ := hq t S' hR
 exact ⟨by rw [hv.v_inv], hs.called hk hnd hfr hent⟩
theorem AWL.callKg {f : FuncId} {xf : Operand} {xs : Array Operand} {ats : Array TypeId} {fst cap : Array Value} {ts : List T} {S1 S2 : St} {R : T → St → Prop} {r : Value} {j dj : Nat} {c b want : Bool} (hg : o.guard = some (j, want)) (hj : (ops[j]?).bind (·.dst) = some dj) (hk : get dj env = some (c, .v (.bool b)))
    (hd : o.dst = some d) (hN : d < cx.N) (ho : o.op = .call { callee := .value xf, args := xs, argTypes := ats }) (hf : calleeB cx.P f = true) (hxf : Ev env (c && (b == want)) xf (.v (.func (.func f) fst cap))) (hx : Evs env (c && (b == want)) xs.toList ts) (hS : S = S1 ++ S2)
    (hc : (c && (b == want)) = true → ACalls cx.P f (fst.toList.map T.v ++ (ts ++ cap.toList.map T.v)) S1 R) (hq : ∀ t S', R t S' → t = .v r ∧ S' = S1) (hr : AWL cx ops l K ((d, (c && (b == want)), .v r) :: env) S) : AWL cx ops (o :: l) K env S := by
 intro a w hs
 unfold wpList
 rw [hs.guard hg hj hk]
 cases hcc : (c && (b == want)) with
 | true =>
  rw [if_pos rfl]
  refine .inl ?_
  unfold Oper.wp
  obtain ⟨args, h1, h2⟩ := call_keeps (g := c && (b == want)) ho hf hxf hx hS hc hq hs hcc
  rw [h1, Oper.upon_enter, hd]
  refine h2.mono ?_
  rintro e w' ⟨rfl, hk⟩
  exact hr _ _ (hk.put hN (fun _ => .v r) (fun e => by rw [hcc] at e; cases e))
 | false =>
  rw [if_neg (by simp), hd]
  exact hr _ _ (hs.put hN (fun e => by rw [hcc] at e; cases e) (fun _ => rfl))
theorem AWL.callKgT {f : FuncId} {xf : Operand} {xs : Array Operand} {ats : Array TypeId} {fst cap : Array Value} {ts : List T} {S1 S2 : St} {R : T → St → Prop} {r : Value} {j dj : Nat} {c b : Bool} (hg : o.guard = some (j, true)) (hj : (ops[j]?).bind (·.dst) = some dj) (hk : get dj env = some (c, .v (.bool b)))
    (hd : o.dst = some d) (hN : d < cx.N) (ho : o.op = .call { callee := .value xf, args := xs, argTypes := ats }) (hf : calleeB cx.P f = true) (hxf : Ev env (c && b) xf (.v (.func (.func f) fst cap))) (hx : Evs env (c && b) xs.toList ts) (hS : S = S1 ++ S2)
    (hc : (c && b) = true → ACalls cx.P f (fst.toList.map T.v ++ (ts ++ cap.toList.map T.v)) S1 R) (hq : ∀ t S', R t S' → t = .v r ∧ S' = S1) (hr : AWL cx ops l K ((d, (c && b), .v r) :: env) S) : AWL cx ops (o :: l) K env S := by
 have e : (c && (b == true)) = (c && b) := by cases b <;> rfl
 exact AWL.callKg hg hj hk hd hN ho hf (e ▸ hxf) (e ▸ hx) hS (fun h => hc (e ▸ h)) hq (e ▸ hr)
theorem AWL.callKgF {f : FuncId} {xf : Operand} {xs : Array Operand} {ats : Array TypeId} {fst cap : Array Value} {ts : List T} {S1 S2 : St} {R : T → St → Prop} {r : Value} {j dj : Nat} {c b : Bool} (hg : o.guard = some (j, false)) (hj : (ops[j]?).bind (·.dst) = some dj) (hk : get dj env = some (c, .v (.bool b)))
    (hd : o.dst = some d) (hN : d < cx.N) (ho : o.op = .call { callee := .value xf, args := xs, argTypes := ats }) (hf : calleeB cx.P f = true) (hxf : Ev env (c && !b) xf (.v (.func (.func f) fst cap))) (hx : Evs env (c && !b) xs.toList ts) (hS : S = S1 ++ S2)
    (hc : (c && !b) = true → ACalls cx.P f (fst.toList.map T.v ++ (ts ++ cap.toList.map T.v)) S1 R) (hq : ∀ t S', R t S' → t = .v r ∧ S' = S1) (hr : AWL cx ops l K ((d, (c && !b), .v r) :: env) S) : AWL cx ops (o :: l) K env S := by
 have e : (c && (b == false)) = (c && !b) := by cases b <;> rfl
 exact AWL.callKg hg hj hk hd hN ho hf (e ▸ hxf) (e ▸ hx) hS (fun h => hc (e ▸ h)) hq (e ▸ hr)
end
end Go.Proofs.YtecpjlhbkmongaaGreat

namespace Go.Proofs.YtecpjlhbkmongaaGreat.M
open Go
theorem ag_100 : aggSize Tryz.prog 100 = some (false, 1) := by kernel_rfl
theorem ag_132 : aggSize Tryz.prog 132 = some (true, 7) := by kernel_rfl
theorem ag_2 : aggSize Tryz.prog 2 = some (false, 1) := by kernel_rfl
theorem ag_22 : aggSize Tryz.prog 22 = some (false, 1) := by kernel_rfl
theorem ag_23 : aggSize Tryz.prog 23 = some (false, 1) := by kernel_rfl
theorem ag_25 : aggSize Tryz.prog 25 = some (true, 2) := by kernel_rfl
theorem ag_27 : aggSize Tryz.prog 27 = some (false, 1) := by kernel_rfl
theorem ag_29 : aggSize Tryz.prog 29 = some (true, 4) := by kernel_rfl
theorem ag_3 : aggSize Tryz.prog 3 = some (false, 1) := by kernel_rfl
theorem ag_36 : aggSize Tryz.prog 36 = some (false, 1) := by kernel_rfl
theorem ag_4 : aggSize Tryz.prog 4 = some (false, 1) := by kernel_rfl
theorem ag_48 : aggSize Tryz.prog 48 = some (true, 5) := by kernel_rfl
theorem ag_5 : aggSize Tryz.prog 5 = some (false, 1) := by kernel_rfl
theorem ag_57 : aggSize Tryz.prog 57 = some (true, 6) := by kernel_rfl
theorem ag_65 : aggSize Tryz.prog 65 = some (false, 1) := by kernel_rfl
theorem ag_68 : aggSize Tryz.prog 68 = some (false, 1) := by kernel_rfl
theorem ag_71 : aggSize Tryz.prog 71 = some (true, 40) := by kernel_rfl
theorem ag_86 : aggSize Tryz.prog 86 = some (false, 1) := by kernel_rfl
theorem ag_9 : aggSize Tryz.prog 9 = some (false, 1) := by kernel_rfl
theorem ar_69 : arrOf Tryz.prog 69 = some (16, 1) := by kernel_rfl
theorem ar_78 : arrOf Tryz.prog 78 = some (19, 3) := by kernel_rfl
theorem ar_95 : arrOf Tryz.prog 95 = some (4096, 1) := by kernel_rfl
theorem bo_4 : isBoolB Tryz.prog 4 = true := by kernel_rfl
theorem ce_10 : calleeB Tryz.prog 10 = true := by kernel_rfl
theorem ce_104 : calleeB Tryz.prog 104 = true := by kernel_rfl
theorem ce_11 : calleeB Tryz.prog 11 = true := by kernel_rfl
theorem ce_12 : calleeB Tryz.prog 12 = true := by kernel_rfl
theorem ce_13 : calleeB Tryz.prog 13 = true := by kernel_rfl
theorem ce_14 : calleeB Tryz.prog 14 = true := by kernel_rfl
theorem ce_15 : calleeB Tryz.prog 15 = true := by kernel_rfl
theorem ce_16 : calleeB Tryz.prog 16 = true := by kernel_rfl
theorem ce_17 : calleeB Tryz.prog 17 = true := by kernel_rfl
theorem ce_18 : calleeB Tryz.prog 18 = true := by kernel_rfl
theorem ce_19 : calleeB Tryz.prog 19 = true := by kernel_rfl
theorem ce_20 : calleeB Tryz.prog 20 = true := by kernel_rfl
theorem ce_21 : calleeB Tryz.prog 21 = true := by kernel_rfl
theorem ce_22 : calleeB Tryz.prog 22 = true := by kernel_rfl
theorem ce_23 : calleeB Tryz.prog 23 = true := by kernel_rfl
theorem ce_25 : calleeB Tryz.prog 25 = true := by kernel_rfl
theorem ce_26 : calleeB Tryz.prog 26 = true := by kernel_rfl
theorem ce_27 : calleeB Tryz.prog 27 = true := by kernel_rfl
theorem ce_28 : calleeB Tryz.prog 28 = true := by kernel_rfl
theorem ce_29 : calleeB Tryz.prog 29 = true := by kernel_rfl
theorem ce_30 : calleeB Tryz.prog 30 = true := by kernel_rfl
theorem ce_32 : calleeB Tryz.prog 32 = true := by kernel_rfl
theorem ce_33 : calleeB Tryz.prog 33 = true := by kernel_rfl
theorem ce_35 : calleeB Tryz.prog 35 = true := by kernel_rfl
theorem ce_36 : calleeB Tryz.prog 36 = true := by kernel_rfl
theorem ce_4 : calleeB Tryz.prog 4 = true := by kernel_rfl
theorem ce_40 : calleeB Tryz.prog 40 = true := by kernel_rfl
theorem ce_41 : calleeB Tryz.prog 41 = true := by kernel_rfl
theorem ce_5 : calleeB Tryz.prog 5 = true := by kernel_rfl
theorem ce_52 : calleeB Tryz.prog 52 = true := by kernel_rfl
theorem ce_53 : calleeB Tryz.prog 53 = true := by kernel_rfl
theorem ce_54 : calleeB Tryz.prog 54 = true := by kernel_rfl
theorem ce_59 : calleeB Tryz.prog 59 = true := by kernel_rfl
theorem ce_6 : calleeB Tryz.prog 6 = true := by kernel_rfl
theorem ce_7 : calleeB Tryz.prog 7 = true := by kernel_rfl
theorem ce_78 : calleeB Tryz.prog 78 = true := by kernel_rfl
theorem ce_8 : calleeB Tryz.prog 8 = true := by kernel_rfl
theorem ce_9 : calleeB Tryz.prog 9 = true := by kernel_rfl
theorem el_23 : elemOf Tryz.prog 23 = some (29, 4, 48, [.int .u64 0, .int .u64 0, .int .i64 0, .slice none 0 0]) := by kernel_rfl
theorem el_27 : elemOf Tryz.prog 27 = some (5, 1, 1, [.int .u8 0]) := by kernel_rfl
theorem el_58 : elemOf Tryz.prog 58 = some (57, 6, 48, [.int .i64 0, .int .i64 0, .int .i64 0, .int .i64 0, .int .i64 0, .int .i64 0]) := by kernel_rfl
theorem fl_48 : flatOf Tryz.prog 48 = some [(0, .b), (1, .b), (2, .b), (3, .b), (4, .b)] := by kernel_rfl
theorem fo_102_0 : fieldOff Tryz.prog 102 0 = some 0 := by kernel_rfl
theorem fo_102_1 : fieldOff Tryz.prog 102 1 = some 1 := by kernel_rfl
theorem fo_25_0 : fieldOff Tryz.prog 25 0 = some 0 := by kernel_rfl
theorem fo_25_1 : fieldOff Tryz.prog 25 1 = some 1 := by kernel_rfl
theorem fo_29_0 : fieldOff Tryz.prog 29 0 = some 0 := by kernel_rfl
theorem fo_29_1 : fieldOff Tryz.prog 29 1 = some 1 := by kernel_rfl
theorem fo_29_2 : fieldOff Tryz.prog 29 2 = some 2 := by kernel_rfl
theorem fo_29_3 : fieldOff Tryz.prog 29 3 = some 3 := by kernel_rfl
theorem fo_38_0 : fieldOff Tryz.prog 38 0 = some 0 := by kernel_rfl
theorem fo_38_1 : fieldOff Tryz.prog 38 1 = some 1 := by kernel_rfl
theorem fo_48_0 : fieldOff Tryz.prog 48 0 = some 0 := by kernel_rfl
theorem fo_48_1 : fieldOff Tryz.prog 48 1 = some 1 := by kernel_rfl
theorem fo_48_2 : fieldOff Tryz.prog 48 2 = some 2 := by kernel_rfl
theorem fo_48_3 : fieldOff Tryz.prog 48 3 = some 3 := by kernel_rfl
theorem fo_48_4 : fieldOff Tryz.prog 48 4 = some 4 := by kernel_rfl
theorem fo_57_0 : fieldOff Tryz.prog 57 0 = some 0 := by kernel_rfl
theorem fo_57_1 : fieldOff Tryz.prog 57 1 = some 1 := by kernel_rfl
theorem fo_57_2 : fieldOff Tryz.prog 57 2 = some 2 := by kernel_rfl
theorem fo_57_5 : fieldOff Tryz.prog 57 5 = some 5 := by kernel_rfl
theorem fo_62_3 : fieldOff Tryz.prog 62 3 = some 7 := by kernel_rfl
theorem fo_62_4 : fieldOff Tryz.prog 62 4 = some 8 := by kernel_rfl
theorem fo_62_5 : fieldOff Tryz.prog 62 5 = some 9 := by kernel_rfl
theorem fo_71_0 : fieldOff Tryz.prog 71 0 = some 0 := by kernel_rfl
theorem fo_71_1 : fieldOff Tryz.prog 71 1 = some 16 := by kernel_rfl
theorem fo_71_2 : fieldOff Tryz.prog 71 2 = some 32 := by kernel_rfl
theorem fo_71_3 : fieldOff Tryz.prog 71 3 = some 37 := by kernel_rfl
theorem fo_71_4 : fieldOff Tryz.prog 71 4 = some 38 := by kernel_rfl
theorem fo_71_5 : fieldOff Tryz.prog 71 5 = some 39 := by kernel_rfl
theorem fo_73_0 : fieldOff Tryz.prog 73 0 = some 0 := by kernel_rfl
theorem fo_73_1 : fieldOff Tryz.prog 73 1 = some 40 := by kernel_rfl
theorem fo_73_3 : fieldOff Tryz.prog 73 3 = some 42 := by kernel_rfl
theorem fo_73_4 : fieldOff Tryz.prog 73 4 = some 43 := by kernel_rfl
theorem fo_77_0 : fieldOff Tryz.prog 77 0 = some 0 := by kernel_rfl
theorem fo_81_2 : fieldOff Tryz.prog 81 2 = some 2 := by kernel_rfl
theorem fo_89_0 : fieldOff Tryz.prog 89 0 = some 0 := by kernel_rfl
theorem fo_89_3 : fieldOff Tryz.prog 89 3 = some 37 := by kernel_rfl
theorem fo_91_0 : fieldOff Tryz.prog 91 0 = some 0 := by kernel_rfl
theorem fo_91_1 : fieldOff Tryz.prog 91 1 = some 38 := by kernel_rfl
theorem fo_91_2 : fieldOff Tryz.prog 91 2 = some 39 := by kernel_rfl
theorem fo_97_0 : fieldOff Tryz.prog 97 0 = some 0 := by kernel_rfl
theorem kd_122 : kindOf Tryz.prog 122 = some .u64 := by kernel_rfl
theorem kd_2 : kindOf Tryz.prog 2 = some .i64 := by kernel_rfl
theorem kd_22 : kindOf Tryz.prog 22 = some .u64 := by kernel_rfl
theorem kd_3 : kindOf Tryz.prog 3 = some .i64 := by kernel_rfl
theorem kd_5 : kindOf Tryz.prog 5 = some .u8 := by kernel_rfl
theorem mp_100 : mapOf Tryz.prog 100 = some ((.int .u64), 22, 109, .pointer none) := by kernel_rfl
theorem mp_86 : mapOf Tryz.prog 86 = some ((.int .u64), 22, 94, .pointer none) := by kernel_rfl
theorem pn_109 : ptrOf Tryz.prog 109 = true := by kernel_rfl
theorem pn_30 : ptrOf Tryz.prog 30 = true := by kernel_rfl
theorem pn_34 : ptrOf Tryz.prog 34 = true := by kernel_rfl
theorem pn_94 : ptrOf Tryz.prog 94 = true := by kernel_rfl
theorem sh_102 : structShape Tryz.prog 102 = some ([.slice none 0 0, .map none], [(0, 1), (1, 1)]) := by kernel_rfl
theorem sh_132 : structShape Tryz.prog 132 = some ([.int .i64 0, .int .i64 0, .int .i64 0, .int .i64 0, .int .i64 0, .int .i64 0, .int .i64 0], [(0, 6), (6, 1)]) := by kernel_rfl
theorem sh_25 : structShape Tryz.prog 25 = some ([.int .u64 0, .slice none 0 0], [(0, 1), (1, 1)]) := by kernel_rfl
theorem sh_29 : structShape Tryz.prog 29 = some ([.int .u64 0, .int .u64 0, .int .i64 0, .slice none 0 0], [(0, 1), (1, 1), (2, 1), (3, 1)]) := by kernel_rfl
theorem sh_38 : structShape Tryz.prog 38 = some ([.string ⟨#[]⟩, .slice none 0 0], [(0, 1), (1, 1)]) := by kernel_rfl
theorem sh_48 : structShape Tryz.prog 48 = some ([.bool false, .bool false, .bool false, .bool false, .bool false], [(0, 1), (1, 1), (2, 1), (3, 1), (4, 1)]) := by kernel_rfl
theorem sh_57 : structShape Tryz.prog 57 = some ([.int .i64 0, .int .i64 0, .int .i64 0, .int .i64 0, .int .i64 0, .int .i64 0], [(0, 1), (1, 1), (2, 1), (3, 1), (4, 1), (5, 1)]) := by kernel_rfl
theorem sh_62 : structShape Tryz.prog 62 = some ([.slice none 0 0, .slice none 0 0, .bool false, .bool false, .bool false, .bool false, .bool false, .slice none 0 0, .slice none 0 0, .slice none 0 0, .string ⟨#[]⟩, .slice none 0 0], [(0, 1), (1, 1), (2, 5), (7, 1), (8, 1), (9, 1), (10, 2)]) := by kernel_rfl
theorem sh_73 : structShape Tryz.prog 73 = some ([.int .u64 0, .int .u64 0, .int .u64 0, .int .u64 0, .int .u64 0, .int .u64 0, .int .u64 0, .int .u64 0, .int .u64 0, .int .u64 0, .int .u64 0, .int .u64 0, .int .u64 0, .int .u64 0, .int .u64 0, .int .u64 0, .int .u64 0, .int .u64 0, .int .u64 0, .int .u64 0, .int .u64 0, .int .u64 0, .int .u64 0, .int .u64 0, .int .u64 0, .int .u64 0, .int .u64 0, .int .u64 0, .int .u64 0, .int .u64 0, .int .u64 0, .int .u64 0, .bool false, .bool false, .bool false, .bool false, .bool false, .int .u64 0, .int .i64 0, .int .i64 0, .pointer none, .pointer none, .int .i64 0, .map none], [(0, 40), (40, 1), (41, 1), (42, 1), (43, 1)]) := by kernel_rfl
theorem sh_81 : structShape Tryz.prog 81 = some ([.map none, .string ⟨#[]⟩, .int .i64 0, .string ⟨#[]⟩, .int .i64 0, .int .i64 0, .string ⟨#[]⟩, .int .i64 0, .int .i64 0, .string ⟨#[]⟩, .int .i64 0, .int .i64 0, .string ⟨#[]⟩, .int .i64 0, .int .i64 0, .string ⟨#[]⟩, .int .i64 0, .int .i64 0, .string ⟨#[]⟩, .int .i64 0, .int .i64 0, .string ⟨#[]⟩, .int .i64 0, .int .i64 0, .string ⟨#[]⟩, .int .i64 0, .int .i64 0, .string ⟨#[]⟩, .int .i64 0, .int .i64 0, .string ⟨#[]⟩, .int .i64 0, .int .i64 0, .string ⟨#[]⟩, .int .i64 0, .int .i64 0, .string ⟨#[]⟩, .int .i64 0, .int .i64 0, .string ⟨#[]⟩, .int .i64 0, .int .i64 0, .string ⟨#[]⟩, .int .i64 0, .int .i64 0, .string ⟨#[]⟩, .int .i64 0, .int .i64 0, .string ⟨#[]⟩, .int .i64 0, .int .i64 0, .string ⟨#[]⟩, .int .i64 0, .int .i64 0, .string ⟨#[]⟩, .int .i64 0, .int .i64 0, .string ⟨#[]⟩, .int .i64 0, .slice none 0 0], [(0, 1), (1, 1), (2, 57), (59, 1)]) := by kernel_rfl
theorem sh_91 : structShape Tryz.prog 91 = some ([.int .u64 0, .int .u64 0, .int .u64 0, .int .u64 0, .int .u64 0, .int .u64 0, .int .u64 0, .int .u64 0, .int .u64 0, .int .u64 0, .int .u64 0, .int .u64 0, .int .u64 0, .int .u64 0, .int .u64 0, .int .u64 0, .int .u64 0, .int .u64 0, .int .u64 0, .int .u64 0, .int .u64 0, .int .u64 0, .int .u64 0, .int .u64 0, .int .u64 0, .int .u64 0, .int .u64 0, .int .u64 0, .int .u64 0, .int .u64 0, .int .u64 0, .int .u64 0, .bool false, .bool false, .bool false, .bool false, .bool false, .int .u64 0, .slice none 0 0, .map none, .pointer none, .int .i64 0, .int .i64 0, .int .i64 0, .map none], [(0, 38), (38, 1), (39, 1), (40, 1), (41, 1), (42, 1), (43, 1), (44, 1)]) := by kernel_rfl
theorem so_23 : sliceOf Tryz.prog 23 = some 29 := by kernel_rfl
theorem so_27 : sliceOf Tryz.prog 27 = some 5 := by kernel_rfl
theorem so_36 : sliceOf Tryz.prog 36 = some 83 := by kernel_rfl
theorem so_58 : sliceOf Tryz.prog 58 = some 57 := by kernel_rfl
theorem ss_23 : sliceSz Tryz.prog 23 = some (29, 4) := by kernel_rfl
theorem ss_27 : sliceSz Tryz.prog 27 = some (5, 1) := by kernel_rfl
theorem ss_58 : sliceSz Tryz.prog 58 = some (57, 6) := by kernel_rfl
theorem st_9 : isStr Tryz.prog 9 = true := by kernel_rfl
theorem zc_132 : zeroCellsOf Tryz.prog 132 = some [.int .i64 0, .int .i64 0, .int .i64 0, .int .i64 0, .int .i64 0, .int .i64 0, .int .i64 0] := by kernel_rfl
theorem zc_25 : zeroCellsOf Tryz.prog 25 = some [.int .u64 0, .slice none 0 0] := by kernel_rfl
theorem zc_29 : zeroCellsOf Tryz.prog 29 = some [.int .u64 0, .int .u64 0, .int .i64 0, .slice none 0 0] := by kernel_rfl
theorem zc_48 : zeroCellsOf Tryz.prog 48 = some [.bool false, .bool false, .bool false, .bool false, .bool false] := by kernel_rfl
theorem zc_57 : zeroCellsOf Tryz.prog 57 = some [.int .i64 0, .int .i64 0, .int .i64 0, .int .i64 0, .int .i64 0, .int .i64 0] := by kernel_rfl
theorem zc_71 : zeroCellsOf Tryz.prog 71 = some [.int .u64 0, .int .u64 0, .int .u64 0, .int .u64 0, .int .u64 0, .int .u64 0, .int .u64 0, .int .u64 0, .int .u64 0, .int .u64 0, .int .u64 0, .int .u64 0, .int .u64 0, .int .u64 0, .int .u64 0, .int .u64 0, .int .u64 0, .int .u64 0, .int .u64 0, .int .u64 0, .int .u64 0, .int .u64 0, .int .u64 0, .int .u64 0, .int .u64 0, .int .u64 0, .int .u64 0, .int .u64 0, .int .u64 0, .int .u64 0, .int .u64 0, .int .u64 0, .bool false, .bool false, .bool false, .bool false, .bool false, .int .u64 0, .int .i64 0, .int .i64 0] := by kernel_rfl
end Go.Proofs.YtecpjlhbkmongaaGreat.M

namespace Go.Proofs.YtecpjlhbkmongaaGreat
open Go Go.RowKit

section
variable {cx : Cx} {env : Env} {S : St} {o : Oper} {g : Bool} {x y z : Operand} {ops : Array Oper} {l : List Oper} {K : Env → St → Prop} {Q : Exit → Env → St → Prop} {d : Nat} {Hd : World → Prop}

def HeldBox (b : Nat) (us : List Value) (w : World) : Prop := ∃ ty, w.heap[b]? = some (.cells us.toArray ty (0, 0))
def Tells (cx : Cx) (Hd : World → Prop) (env : Env) (S : St) : Prop := ∀ a w, Sim cx env S a w → Hd w
def AWH (cx : Cx) (ops : Array Oper) (Hd : World → Prop) (fuel : Nat) (listed : Array Bool) (K : Env → St → Prop) (env : Env) (S : St) : Prop :=
 ∀ a w, Sim cx env S a w → Hd w → wpAnyH cx.P .any ops (liftN cx K) Hd fuel listed a w

theorem tells_box {b : Nat} {ty : TypeId} {us : List Value} {k : Nat} (hi : S[k]? = some (.box b ty (us.map T.v))) : Tells cx (HeldBox b us) env S := by
 intro a w hs
 obtain ⟨vs, hh, hV⟩ := hs.box hi
 have e : vs = us := by
  have e1 := hV.len
  apply List.ext_getElem?
  intro j
  cases hj : us[j]? with
  | none =>
   rw [List.getElem?_eq_none_iff] at hj
   rw [List.getElem?_eq_none]
   rw [List.length_map] at e1; omega
  | some u =>
   obtain ⟨u', h1, h2, _⟩ := hV.get (i := j) (t := .v u) (by rw [List.getElem?_map, hj]; rfl)
   rw [h1, h2.v_inv]
 exact ⟨ty, by rw [hh, e]⟩

theorem AW.rseqH (Hd : World → Prop) {id : Nat} {l : List Oper} {y : Code} (hm : cx.P.follows .mixedOrders = true) (ht : Tells cx Hd env S) (h : AWH cx l.toArray Hd l.length (Array.replicate l.length false) (AW cx y Q) env S) : AW cx (.seq (.region id l.toArray true) y) Q env S := by
 refine AW.seq fun a w hs => ?_
 have h1 := wp_region_held (id := id) hm (h a _ hs.drew (ht _ _ hs.drew))
 refine Code.wp_mono (fun e a w hq => ?_) h1
 obtain ⟨rfl, env', S', h1, h2⟩ := hq
 exact ⟨env', S', h1, h2⟩
theorem AW.regionH (Hd : World → Prop) {id : Nat} {l : List Oper} (hm : cx.P.follows .mixedOrders = true) (ht : Tells cx Hd env S) (h : AWH cx l.toArray Hd l.length (Array.replicate l.length false) (Q .normal) env S) : AW cx (.region id l.toArray true) Q env S := by
 intro a w hs
 have h1 := wp_region_held (id := id) hm (h a _ hs.drew (ht _ _ hs.drew))
 refine Code.wp_mono (fun e a w hq => ?_) h1
 obtain ⟨rfl, env', S', h1, h2⟩ := hq
 exact ⟨env', S', h1, h2⟩
theorem AWH.done {fuel : Nat} {listed : Array Bool} (hr : Region.ready .any ops listed = []) (h : K env S) : AWH cx ops Hd fuel listed K env S :=
 fun a w hs _ => wpAnyH_done hr ⟨rfl, env, S, hs, h⟩ fuel
theorem AWH.one {fuel i : Nat} {listed : Array Bool} (hr : Region.ready .any ops listed = [i]) (hi : ops[i]? = some o) (h : AWL cx ops [o] (fun env S => Tells cx Hd env S ∧ AWH cx ops Hd fuel (listed.setIfInBounds i true) K env S) env S) : AWH cx ops Hd (fuel + 1) listed K env S := by
 intro a w hs hd
 refine wpAnyH_all hr (by simp) fun j hj => ?_
 rw [List.mem_singleton] at hj
 subst hj
 exact wpOp_of_AWL hi h (fun _ _ a w h1 h2 => ⟨h1.1 a w h2, h1.2 a w h2 (h1.1 a w h2)⟩) hs
theorem AWH.two {fuel i j : Nat} {o' : Oper} {listed : Array Bool} (hr : Region.ready .any ops listed = [i, j]) (hi : ops[i]? = some o) (hj : ops[j]? = some o') (h : AWL cx ops [o] (fun env S => Tells cx Hd env S ∧ AWH cx ops Hd fuel (listed.setIfInBounds i true) K env S) env S) (h' : AWL cx ops [o'] (fun env S => Tells cx Hd env S ∧ AWH cx ops Hd fuel (listed.setIfInBounds j true) K env S) env S) : AWH cx ops Hd (fuel + 1) listed K env S := by
 intro a w hs hd
 refine wpAnyH_all hr (by simp) fun q hq => ?_
 simp only [List.mem_cons, List.not_mem_nil, or_false] at hq
 rcases hq with rfl | rfl
 ·exact wpOp_of_AWL hi h (fun _ _ a w h1 h2 => ⟨h1.1 a w h2, h1.2 a w h2 (h1.1 a w h2)⟩) hs
 exact wpOp_of_AWL hj h' (fun _ _ a w h1 h2 => ⟨h1.1 a w h2, h1.2 a w h2 (h1.1 a w h2)⟩) hs
theorem AWH.take {fuel i : Nat} {listed : Array Bool} {t : T} (hi : ops[i]? = some o) (hs : Region.noSelect ops = true) (hf : Region.free .any ops listed i = true) (hr : (Region.ready .any ops listed).contains i = true) (hg : o.guard = none) (hd : o.dst = some d) (hN : d < cx.N)
    (hy : ∀ a w, Sim cx env S a w → ∃ u, VRep w (cx.X ++ M S) t u ∧ ∀ w', Hd w' → (execOp a.eval o).run cx.P w' = .ok (.value u) w') (h : AWH cx ops Hd fuel (listed.setIfInBounds i true) K ((d, true, t) :: env) S) : AWH cx ops Hd (fuel + 1) listed K env S := by
 intro a w hsim hdw
 obtain ⟨u, h1, h2⟩ := hy a w hsim
 refine wpAnyH_take (v := u) hi hs hf hr (fun c a w hq => absurd hq.1 (by simp)) (.inl ⟨wanted_none hg, h2⟩) hdw ?_
 rw [hd]
 exact h _ _ (hsim.put hN (fun _ => h1) (by simp)) hdw
theorem heldAll {t : T} (h : ∀ a w, Sim cx env S a w → ∃ u, VRep w (cx.X ++ M S) t u ∧ ∀ w', (execOp a.eval o).run cx.P w' = .ok (.value u) w') : ∀ a w, Sim cx env S a w → ∃ u, VRep w (cx.X ++ M S) t u ∧ ∀ w', Hd w' → (execOp a.eval o).run cx.P w' = .ok (.value u) w' :=
 fun a w hs => (h a w hs).imp fun u q => ⟨q.1, fun w' _ => q.2 w'⟩
theorem heldLoad {b p n : Nat} {t : TypeId} {us : List Value} {u : Value} (ho : o.op = .load t x) (h : aggSize cx.P t = some (false, n)) (hx : Ev env true x (.v (.pointer (some ⟨b, p, none⟩)))) (hu : us[p]? = some u) : ∀ a w, Sim cx env S a w → ∃ u', VRep w (cx.X ++ M S) (.v u) u' ∧ ∀ w', HeldBox b us w' → (execOp a.eval o).run cx.P w' = .ok (.value u') w' := by
 intro a w hs
 have hv := hx.val hs rfl
 refine ⟨u, (.v _), fun w' hd => exec_load ho w' ?_⟩
 obtain ⟨ty, hh⟩ := hd
 rw [hv]
 exact run_loadAt_one h w' (by rw [cell_of_heap hh, hu])
end
end Go.Proofs.YtecpjlhbkmongaaGreat

namespace Go.Proofs.YtecpjlhbkmongaaGreat
open Go Go.RowKit
theorem len_u8s {bs : List UInt8} : (bs.map u8).length = bs.length * 1 := by simp
theorem u8_get {bs : List UInt8} {j : Nat} (h : j < bs.length) : (bs.map u8)[j * 1]? = some (u8 (bs.getD j 0)) := by simp [h]
theorem u8_toNat (b : UInt8) : (0 : Int) ≤ b.toNat ∧ (b.toNat : Int) ≤ 255 := by have := b.toNat_lt; omega

def leBytes : Nat → Int → List UInt8
 | 0, _ => []
 | k + 1, x => UInt8.ofNat (x % 256).toNat :: leBytes k (x / 256)
theorem leBytes_length : ∀ k x, (leBytes k x).length = k
 | 0, _ => rfl
 | k + 1, x => by simp [leBytes, leBytes_length k]
theorem leBytes_succ : ∀ k x, leBytes (k + 1) x = leBytes k x ++ [UInt8.ofNat (x / 256 ^ k % 256).toNat]
 | 0, x => by simp [leBytes]
 | k + 1, x => by
  rw [leBytes, leBytes_succ k (x / 256)]
  simp only [leBytes, List.cons_append, Int.pow_succ]
  congr 5
  rw [Int.ediv_ediv_of_nonneg (by decide), Int.mul_comm]
theorem u8_wrap (p : Int) : T.v (.int .u8 (IntKind.u8.wrap p)) = u8 (UInt8.ofNat (p % 256).toNat) := by
 unfold u8
 have h : (0 : Int) ≤ p % 256 ∧ p % 256 < 256 := ⟨Int.emod_nonneg _ (by decide), Int.emod_lt_of_pos _ (by decide)⟩
 have h1 : (UInt8.ofNat (p % 256).toNat).toNat = (p % 256).toNat := by
  rw [UInt8.toNat_ofNat']
  omega
 rw [h1, IntKind.wrap_u8]
 congr 2
 omega
theorem div_succ (x : Int) (j : Nat) : x / 256 ^ (j + 1) = x / 256 ^ j / 256 := by
 rw [Int.pow_succ, Int.ediv_ediv_of_nonneg (Int.pow_nonneg (by decide))]
theorem div_range {m : Int} (x : Int) (j : Nat) (h0 : 0 ≤ x) (h1 : x ≤ m) : 0 ≤ x / 256 ^ j ∧ x / 256 ^ j ≤ m := by
 have h2 : x / 256 ^ j ≤ x := Int.ediv_le_self _ h0
 have h3 : 0 ≤ x / 256 ^ j := Int.ediv_nonneg h0 (Int.pow_nonneg (by decide))
 omega
end Go.Proofs.YtecpjlhbkmongaaGreat

namespace Go.Proofs.YtecpjlhbkmongaaGreat
open Go Go.RowKit
section
variable {cx : Cx} {env : Env} {S : St} {o : Oper} {ops : Array Oper} {l : List Oper} {K : Env → St → Prop} {d : Nat} {Hd : World → Prop}
theorem AWH.tk {fuel i : Nat} {listed : Array Bool} {t : T} (hi : ops[i]? = some o) (hg : o.guard = none) (hd : o.dst = some d) (hN : d < cx.N)
    (hy : ∀ a w, Sim cx env S a w → ∃ u, VRep w (cx.X ++ M S) t u ∧ ∀ w', Hd w' → (execOp a.eval o).run cx.P w' = .ok (.value u) w') (h : AWH cx ops Hd fuel (listed.setIfInBounds i true) K ((d, true, t) :: env) S)
    (hs : Region.noSelect ops = true := by kernel_rfl) (hf : Region.free .any ops listed i = true := by kernel_rfl) (hr : (Region.ready .any ops listed).contains i = true := by kernel_rfl) : AWH cx ops Hd (fuel + 1) listed K env S := AWH.take hi hs hf hr hg hd hN hy h
theorem tb {b : Nat} {ty : TypeId} {us : List Value} {K : Env → St → Prop} (k : Nat) (hi : S[k]? = some (.box b ty (us.map T.v))) (h : K env S) : AWL cx ops [] (fun env S => Tells cx (HeldBox b us) env S ∧ K env S) env S := AWL.nil ⟨tells_box hi, h⟩
end
structure Ins where
 kind : Int
 d : Int
 s : Int
 cond : Int
 size : Int
 imm : Int
 deriving Inhabited, DecidableEq
def insVals (i : Ins) : List Value := [.int .i64 i.kind, .int .i64 i.d, .int .i64 i.s, .int .i64 i.cond, .int .i64 i.size, .int .i64 i.imm]
def insCells (i : Ins) : List T := [.v (.int .i64 i.kind), .v (.int .i64 i.d), .v (.int .i64 i.s), .v (.int .i64 i.cond), .v (.int .i64 i.size), .v (.int .i64 i.imm)]
def insT (i : Ins) : T := .agg (insCells i)
def inF (n lo hi : Int) : Bool := decide (lo ≤ n) && decide (n ≤ hi)
def smallF (n : Int) : Bool := inF n (-2147483648) 2147483647
/-! ### the bytes -/
def byteOf (x : Int) : UInt8 := UInt8.ofNat (x % 256).toNat
theorem byteOf_wrap (p : Int) : T.v (.int .u8 (IntKind.u8.wrap p)) = u8 (byteOf p) := u8_wrap p
def ints (l : List Int) : List T := l.map fun x => .v (.int .i64 x)
theorem len_ints {l : List Int} : (ints l).length = l.length * 1 := by simp [ints]
theorem ints_get {l : List Int} {j : Nat} (h : j < l.length) : (ints l)[j * 1]? = some (.v (.int .i64 (l.getD j 0))) := by simp [ints, h]
def opTab : List (Int × Int) := [(255, 4), (137, 0), (255, 4), (255, 4), (255, 4), (255, 4), (1, 0), (9, 0), (17, 0), (25, 0), (33, 0), (41, 0), (49, 0), (57, 0), (133, 0), (129, 0), (129, 1), (129, 4), (129, 5), (129, 6), (129, 7), (255, 4), (247, 4), (247, 6), (247, 3), (247, 2), (211, 4), (211, 5), (211, 7), (193, 4), (193, 5), (193, 7), (255, 4), (255, 4), (255, 4), (255, 4), (255, 4), (255, 4), (255, 2)]
def opF (k : Int) : Int × Int := if 1 ≤ k ∧ k ≤ 38 then opTab.getD k.toNat (255, 4) else (255, 4)
theorem op_out {k : Int} (h : ¬ (k = 1 ∨ 6 ≤ k ∧ k ≤ 20 ∨ 22 ≤ k ∧ k ≤ 31 ∨ k = 38)) : opF k = (255, 4) := by
 unfold opF
 split
 ·have h1 : k = 2 ∨ k = 3 ∨ k = 4 ∨ k = 5 ∨ k = 21 ∨ k = 32 ∨ k = 33 ∨ k = 34 ∨ k = 35 ∨ k = 36 ∨ k = 37 := by omega
  rcases h1 with h1 | h1 | h1 | h1 | h1 | h1 | h1 | h1 | h1 | h1 | h1 <;> rw [h1] <;> rfl
 rfl
end Go.Proofs.YtecpjlhbkmongaaGreat

namespace Go.Proofs.YtecpjlhbkmongaaGreat
open Go Go.RowKit
section
variable {cx : Cx} {env : Env} {S : St} {o : Oper} {x : Operand}
theorem heldLoadA {b p n : Nat} {t : TypeId} {us vs : List Value} {l' : List T} (ho : o.op = .load t x) (h : aggSize cx.P t = some (true, n)) (hx : Ev env true x (.v (.pointer (some ⟨b, p, none⟩)))) (hv : (us.drop p).take n = vs) (hn : vs.length = n) (h1 : vs.all (fun u => u.oneCell') = true) (hl : vs.map T.v = l') :
    ∀ a w, Sim cx env S a w → ∃ u', VRep w (cx.X ++ M S) (.agg l') u' ∧ ∀ w', HeldBox b us w' → (execOp a.eval o).run cx.P w' = .ok (.value u') w' := by
 intro a w hs
 have hvx := hx.val hs rfl
 have hV := vreps_vals (w := w) (L := cx.X ++ M S) vs (fun u hu => List.all_eq_true.1 h1 u hu)
 rw [hl] at hV
 refine ⟨.agg vs.toArray, .agg hV.len hV.at_ hV.one, fun w' hd => exec_load ho w' ?_⟩
 obtain ⟨ty, hh⟩ := hd
 rw [hvx]
 refine run_loadAt_agg h hn w' (fun j v hj => ?_)
 rw [← hv, List.getElem?_take] at hj
 split at hj
 ·rw [List.getElem?_drop] at hj
  rw [add_lit', cell_of_heap hh, hj]
 cases hj
end

section
variable {cx : Cx} {env : Env} {S : St} {o : Oper} {x y : Operand}
theorem freeExtract {i : Nat} {l : List T} {r : T} (ho : o.op = .extract x i) (hx : Ev env true x (.tup l)) (hr : l[i]? = some r) : ∀ a w, Sim cx env S a w → ∃ u, VRep w (cx.X ++ M S) r u ∧ ∀ w', (execOp a.eval o).run cx.P w' = .ok (.value u) w' := by
 intro a w hs
 have hv := hx.rep hs rfl
 generalize hu : a.eval x = u at hv
 cases hv with
 | tup hl hh =>
  rename_i ys
  have hi : i < ys.length := hl ▸ (List.getElem?_eq_some_iff.1 hr).1
  refine ⟨ys[i], hh i r _ hr (List.getElem?_eq_getElem hi), fun w' => ?_⟩
  simp [execOp, ho, hu, Instr.extract, Sem.run_pure, List.getElem?_eq_getElem hi]
end

section
variable {cx : Cx} {env : Env} {S : St} {o : Oper} {g : Bool} {x y : Operand}
end
end Go.Proofs.YtecpjlhbkmongaaGreat

namespace Go.Proofs.YtecpjlhbkmongaaGreat
open Go Go.RowKit
section
variable {cx : Cx} {env : Env} {S : St} {o : Oper} {x y : Operand}
theorem freeBits {op : BinOp} {ty yt : TypeId} {k : IntKind} {p q : Int} (ho : o.op = .binOp op ty x y yt) (hop : isBits op = true) (hx : Ev env true x (.v (.int k p))) (hy : Ev env true y (.v (.int k q))) : ∀ a w, Sim cx env S a w → ∃ u, VRep w (cx.X ++ M S) (.v (.int k (bitsOf op k p q))) u ∧ ∀ w', (execOp a.eval o).run cx.P w' = .ok (.value u) w' :=
 fun a w hs => ⟨_, .v _, fun w' => by
  rw [exec_binOp_int ho (hx.val hs rfl) (hy.val hs rfl)]
  cases op <;> first | (cases hop; done) | simp [binOp, Op.intBits, Sem.run_pure, bitsOf]⟩
theorem freeShrC {ty yt : TypeId} {k k' : IntKind} {p q : Int} (D : Int) (hD : (2 : Int) ^ (min q.toNat k.bits) = D) (h0 : 0 ≤ D) (hq : 0 ≤ q) (ho : o.op = .binOp .shr ty x y yt) (hx : Ev env true x (.v (.int k p))) (hy : Ev env true y (.v (.int k' q))) : ∀ a w, Sim cx env S a w → ∃ u, VRep w (cx.X ++ M S) (.v (.int k (p / D))) u ∧ ∀ w', (execOp a.eval o).run cx.P w' = .ok (.value u) w' :=
 fun a w hs => ⟨_, .v _, fun w' => by
  rw [exec_binOp_int ho (hx.val hs rfl) (hy.val hs rfl)]
  have e : p / D = shrOf k p q := by unfold shrOf; rw [hD, Int.fdiv_eq_ediv_of_nonneg p h0]
  rw [e]
  simp [binOp, Op.shift, Sem.run_pure, show ¬ q < 0 by omega, shrOf]⟩
theorem freeAndN_i64 {ty yt : TypeId} {p q : Int} (n : Nat) (D : Nat) (hD : 2 ^ n = D) (hDk : D ≤ 18446744073709551616) (hq : q = ((D - 1 : Nat) : Int)) (ho : o.op = .binOp .and ty x y yt) (hx : Ev env true x (.v (.int .i64 p))) (hy : Ev env true y (.v (.int .i64 q))) (hb : 0 ≤ p ∧ p ≤ 9223372036854775807) : ∀ a w, Sim cx env S a w → ∃ u, VRep w (cx.X ++ M S) (.v (.int .i64 (p % (D : Int)))) u ∧ ∀ w', (execOp a.eval o).run cx.P w' = .ok (.value u) w' := by
 intro a w hs
 obtain ⟨h0, h1⟩ := hb
 have h := freeBits (cx := cx) ho rfl hx hy a w hs
 obtain ⟨p, rfl⟩ := Int.eq_ofNat_of_zero_le h0
 have hB : (2 : Nat) ^ IntKind.i64.bits = 18446744073709551616 := by decide
 have hm : p % D ≤ p := Nat.mod_le p D
 have e := bits_and_mod (k := .i64) p hD (hB ▸ hDk) (by rw [hB]; omega) (IntWalk.i64_in _ ⟨by omega, by omega⟩)
 rw [hq, e, Int.natCast_emod] at h
 exact h
end
end Go.Proofs.YtecpjlhbkmongaaGreat

namespace Go.Proofs.YtecpjlhbkmongaaGreat
open Go Go.RowKit
section
variable {P : Program} {ops : Array Oper} {md : Region.Mode} {C : World → Prop}

def wpT (P : Program) (md : Region.Mode) (ops : Array Oper) (C : World → Prop) (D : Nat → Bool) (Q : Array Bool → Act → Prop) : Nat → Array Bool → Act → Prop
 | 0, listed, a => (∀ j, D j = true → listed.getD j true = true) ∧ Q listed a
 | fuel + 1, listed, a => (∃ j, D j = true ∧ j ∈ Region.ready md ops listed) ∧
  ∀ i ∈ Region.ready md ops listed, D i = true → qOp P ops C i (wpT P md ops C D Q fuel (listed.setIfInBounds i true)) a
theorem wpT_first {D : Nat → Bool} {Q : Array Bool → Act → Prop} {i : Nat} {oi : Oper} {v : Value} (hi : ops[i]? = some oi) (hD : D i = true) (hsel : ∀ (j : Nat) (o : Oper) cs b, ops[j]? = some o → o.op ≠ .select cs b) :
    ∀ (fuel : Nat) (listed : Array Bool) (a : Act),
     (∀ j oj, ops[j]? = some oj → j ≠ i → listed.getD j true = false → (∀ e ∈ oj.after, Region.binds md e = true → e.on ≠ i) → oi.apart ops oj = true) →
     i ∈ Region.ready md ops listed → YieldsIn P ops C oi v a →
     wpT P md ops C D Q fuel (listed.setIfInBounds i true) (a.put oi.dst v) → wpT P md ops C D Q (fuel + 1) listed a := by
 intro fuel
 induction fuel with
 | zero =>
  intro listed a _ hr hy H
  refine ⟨⟨i, hD, hr⟩, fun j hj hDj => ?_⟩
  by_cases hji : j = i
  ·subst hji; exact hy.qOp hi H
  ·have h1 := H.1 j hDj
   have h0 := (mem_ready.1 hj).1
   rw [getD_set_ne true (Ne.symm hji), h0] at h1
   cases h1
 | succ fuel ih =>
  intro listed a hfree hr hy H
  refine ⟨⟨i, hD, hr⟩, fun j hj hDj => ?_⟩
  by_cases hji : j = i
  ·subst hji; exact hy.qOp hi H
  ·have h1 := H.2 j (ready_mono hj hji) hDj
   obtain ⟨hjun, oj, hoj, hall⟩ := mem_ready.1 hj
   have hnot : ∀ e ∈ oj.after, Region.binds md e = true → e.on ≠ i := fun e he hb heq => by
    have h1 := hall e he hb
    have h0 := (mem_ready.1 hr).1
    rw [heq] at h1
    rcases Nat.lt_or_ge i listed.size with h' | h'
    ·simp [h'] at h0 h1; rw [h0] at h1; cases h1
    ·simp [Array.getElem?_eq_none h'] at h1
   have h2 := qOp_put hoj (hfree j oj hoj hji hjun hnot) (fun cs b => hsel i oi cs b hi) (fun cs b => hsel j oj cs b hoj) hy h1
   have hfree' : ∀ k ok, ops[k]? = some ok → k ≠ i → (listed.setIfInBounds j true).getD k true = false →
       (∀ e ∈ ok.after, Region.binds md e = true → e.on ≠ i) → oi.apart ops ok = true := fun k ok hk hki hun hno => by
    refine hfree k ok hk hki ?_ hno
    by_cases hjk : j = k
    ·subst hjk; exact hjun
    ·rw [getD_set_ne true hjk] at hun; exact hun
   refine qOp_mono (fun a' h3 => ih (listed.setIfInBounds j true) a' hfree' (ready_mono hr (Ne.symm hji)) h3.1 ?_) h2
   rw [Array.setIfInBounds_comm _ _ hji]
   exact h3.2
def maskL {α : Type} : List Bool → List α → List α
 | true :: m, a :: l => a :: maskL m l
 | false :: m, _ :: l => maskL m l
 | _, _ => []
def afterM : List Bool → Nat → Array Bool → Array Bool
 | [], _, listed => listed
 | true :: m, k, listed => afterM m (k + 1) (listed.setIfInBounds k true)
 | false :: m, k, listed => afterM m (k + 1) listed
def phaseFrom (md : Region.Mode) (ops : Array Oper) : List Bool → Nat → Array Bool → Bool
 | [], _, _ => true
 | true :: m, k, listed => (Region.ready md ops listed).contains k && Region.free md ops listed k && phaseFrom md ops m (k + 1) (listed.setIfInBounds k true)
 | false :: m, k, listed => phaseFrom md ops m (k + 1) listed
def depsIn (md : Region.Mode) (ops : Array Oper) (k : Nat) (g : Array Bool) : Bool := ((ops[k]?).map fun o => o.after.all fun e => !Region.binds md e || g.getD e.on false).getD false
def shut (md : Region.Mode) (ops : Array Oper) (m : List Bool) (L : List Nat) (g : Array Bool) : Array Bool :=
 L.foldl (fun g k => if m.getD k false && !depsIn md ops k g then g.setIfInBounds k false else g) g
def strayB (md : Region.Mode) (ops : Array Oper) (m : List Bool) (listed f : Array Bool) : Bool :=
 (List.range listed.size).all fun j => (!m.getD j false || (f.getD j false && !listed.getD j true)) && (!f.getD j true || listed.getD j true || m.getD j false) && (!m.getD j false || (Region.ready md ops (shut md ops m (List.range listed.size) (f.setIfInBounds j false))).all fun k => m.getD k false)
def phaseB (md : Region.Mode) (ops : Array Oper) (m : List Bool) (listed : Array Bool) : Bool :=
 Region.noSelect ops && (phaseFrom md ops m 0 listed && (decide (m.length ≤ listed.size) && (decide ((afterM m 0 listed).size = listed.size) && strayB md ops m listed (afterM m 0 listed))))
theorem wpT_lex {D : Nat → Bool} {Q : Act → Prop} (hs : Region.noSelect ops = true) : ∀ (m : List Bool) (l : List Oper) (k : Nat) (listed : Array Bool) (a : Act), (∀ j, l[j]? = ops[k + j]?) →
    phaseFrom md ops m k listed = true → (∀ j, m[j]? = some true → D (k + j) = true) → (∀ j, D j = true → (∃ q, j = k + q ∧ m[q]? = some true) ∨ listed.getD j true = true) →
    wpQuiet P ops C Q (maskL m l) a → wpT P md ops C D (fun f a => f = afterM m k listed ∧ Q a) (m.count true) listed a
 | [], l, k, listed, a, _, _, _, hc, h => by
  refine ⟨fun j hj => (hc j hj).resolve_left (fun ⟨q, _, hq⟩ => by simp at hq), rfl, ?_⟩
  have e : maskL ([] : List Bool) l = [] := by cases l <;> rfl
  rw [e] at h
  exact h
 | false :: m, l, k, listed, a, hl, hB, hD, hc, h => by
  have e : (false :: m).count true = m.count true := by simp
  rw [e]
  refine wpT_lex hs m l.tail (k + 1) listed a (fun j => ?_) hB (fun j hj => ?_) (fun j hj => ?_) ?_
  ·have := hl (j + 1)
   rw [List.getElem?_tail]
   rw [this]
   congr 1
   omega
  ·have := hD (j + 1) (by simpa using hj)
   rwa [show k + 1 + j = k + (j + 1) by omega]
  ·rcases hc j hj with ⟨q, h1, h2⟩ | h1
   ·cases q with
    | zero => simp at h2
    | succ q => exact .inl ⟨q, by omega, by simpa using h2⟩
   ·exact .inr h1
  ·cases l with
   | nil => simpa [maskL] using h
   | cons o l => simpa [maskL] using h
 | true :: m, [], k, listed, a, hl, hB, hD, hc, h => by
  exfalso
  simp only [phaseFrom, Bool.and_eq_true] at hB
  have hr : k ∈ Region.ready md ops listed := by simpa using hB.1.1
  obtain ⟨_, o, ho, _⟩ := mem_ready.1 hr
  have := hl 0
  rw [Nat.add_zero, ho] at this
  simp at this
 | true :: m, o :: l, k, listed, a, hl, hB, hD, hc, h => by
  have h0 : ops[k]? = some o := by simpa using (hl 0).symm
  simp only [phaseFrom, Bool.and_eq_true] at hB
  obtain ⟨⟨hr, hf⟩, hB'⟩ := hB
  have hr : k ∈ Region.ready md ops listed := by simpa using hr
  have hst : qOp P ops C k (wpQuiet P ops C Q (maskL m l)) a := by unfold qOp; simp only [h0]; exact h
  obtain ⟨v, hy, hK⟩ := yieldsIn_of_qOp h0 hst
  have hlt : k < listed.size := by
   rcases Nat.lt_or_ge k listed.size with h' | h'
   ·exact h'
   ·have := (mem_ready.1 hr).1
    simp [Array.getElem?_eq_none h'] at this
  have e : (true :: m).count true = m.count true + 1 := by simp
  rw [e]
  refine wpT_first h0 (hD 0 rfl) (Region.noSelect_spec hs) _ listed a (Region.free_spec h0 hf) hr hy ?_
  refine wpT_lex hs m l (k + 1) _ _ (fun j => by have := hl (j + 1); simpa [Nat.add_assoc, Nat.add_comm 1 j] using this) hB' (fun j hj => ?_) (fun j hj => ?_) hK
  ·have := hD (j + 1) (by simpa using hj)
   rwa [show k + 1 + j = k + (j + 1) by omega]
  ·rcases hc j hj with ⟨q, h1, h2⟩ | h1
   ·cases q with
    | zero =>
     right
     subst h1
     simp [hlt]
    | succ q => exact .inl ⟨q, by omega, by simpa using h2⟩
   ·right
    by_cases hkj : k = j
    ·subst hkj
     simp [hlt]
    ·rw [getD_set_ne true hkj]
     exact h1
theorem getD_unset {f : Array Bool} {i j : Nat} (d : Bool) (h : i ≠ j) : (f.setIfInBounds i false).getD j d = f.getD j d := by
 simp [Array.getElem?_setIfInBounds_ne h]
theorem shut_keep {m : List Bool} {i : Nat} : ∀ (L : List Nat) (g : Array Bool), g.getD i true = false → (shut md ops m L g).getD i true = false
 | [], _, h => h
 | k :: L, g, h => by
  refine shut_keep (m := m) L _ ?_
  show (if (m.getD k false && !depsIn md ops k g) = true then g.setIfInBounds k false else g).getD i true = false
  split
  ·by_cases hk : k = i
   ·subst hk
    rcases Nat.lt_or_ge k g.size with h' | h'
    ·simp [h']
    ·rw [Array.getD_eq_getD_getElem?, Array.getElem?_eq_none h'] at h
     cases h
   ·rw [getD_unset true hk]
    exact h
  ·exact h
theorem shut_sup {m : List Bool} {listed : Array Bool} (hc : ∀ k, m.getD k false = true → listed.getD k false = true → depsIn md ops k listed = true) : ∀ (L : List Nat) (g : Array Bool), (∀ x, listed.getD x false = true → g.getD x false = true) →
    ∀ x, listed.getD x false = true → (shut md ops m L g).getD x false = true
 | [], _, h => h
 | k :: L, g, h => by
  refine shut_sup hc L _ fun x hx => ?_
  show (if (m.getD k false && !depsIn md ops k g) = true then g.setIfInBounds k false else g).getD x false = true
  split
  ·rename_i hk
   rw [Bool.and_eq_true, Bool.not_eq_true'] at hk
   by_cases hkx : k = x
   ·exfalso
    subst hkx
    have h1 := hc k hk.1 hx
    have h2 := hk.2
    unfold depsIn at h1 h2
    cases ho : ops[k]? with
    | none => rw [ho] at h1; cases h1
    | some o =>
     rw [ho] at h1 h2
     simp only [Option.map_some, Option.getD_some] at h1 h2
     rw [Array.all_eq_true'] at h1
     have h3 : (o.after.all fun e => !Region.binds md e || g.getD e.on false) = true := by
      rw [Array.all_eq_true']
      intro e he
      have := h1 e he
      rw [Bool.or_eq_true] at this ⊢
      rcases this with q | q
      ·exact .inl q
      ·exact .inr (h _ q)
     rw [h3] at h2
     cases h2
   ·rw [getD_unset false hkx]
    exact h x hx
  ·exact h x hx
theorem wpAny_of_T {m : List Bool} {listed0 f : Array Bool} (hm : m.length ≤ listed0.size) (hf : f.size = listed0.size) (hB : strayB md ops m listed0 f = true) {Q : Array Bool → Act → Prop} {Q' : Exit → Act → World → Prop} {rest : Nat}
    (hQ : ∀ listed a w, C w → Q listed a → wpAny P md ops Q' rest listed a w) : ∀ (fuel : Nat) (listed : Array Bool) (a : Act) (w : World), C w →
     (listed.size = listed0.size ∧ (∀ j, listed.getD j false = true → f.getD j false = true) ∧ (∀ j, listed0.getD j true = true → listed.getD j true = true) ∧ ∀ k, m.getD k false = true → listed.getD k false = true → depsIn md ops k listed = true) →
     wpT P md ops C (fun j => m.getD j false) Q fuel listed a → wpAny P md ops Q' (fuel + rest) listed a w
 | 0, listed, a, w, hw, _, h => by
  rw [Nat.zero_add]
  exact hQ listed a w hw h.2
 | fuel + 1, listed, a, w, hw, ⟨i1, i2, i3, i4⟩, h => by
  have hall : ∀ j, j < listed0.size → _ := fun j hj => by
   have := hB
   unfold strayB at this
   rw [List.all_eq_true] at this
   exact this j (List.mem_range.2 hj)
  have hDlt : ∀ j, m.getD j false = true → j < listed0.size := fun j hj => by
   rcases Nat.lt_or_ge j m.length with h' | h'
   ·omega
   ·rw [List.getD_eq_getElem?_getD, List.getElem?_eq_none h'] at hj
    cases hj
  obtain ⟨⟨j0, hD0, hr0⟩, h2⟩ := h
  have hD0 : m.getD j0 false = true := hD0
  have hin : ∀ i ∈ Region.ready md ops listed, m.getD i false = true := by
   intro i hi
   obtain ⟨hu, o, ho, hdep⟩ := mem_ready.1 hi
   obtain ⟨hu0, _⟩ := mem_ready.1 hr0
   have hilt : i < listed0.size := by
    rcases Nat.lt_or_ge i listed.size with h' | h'
    ·omega
    ·rw [Array.getD_eq_getD_getElem?, Array.getElem?_eq_none h'] at hu
     cases hu
   have a1 := hall i hilt
   have a0 := hall j0 (hDlt j0 hD0)
   simp only [Bool.and_eq_true, Bool.or_eq_true, Bool.not_eq_true', List.all_eq_true] at a1 a0
   rcases a1.1.2 with (h1 | h1) | h1
   ·have hne : j0 ≠ i := by
     rintro rfl
     have := a0.1.1
     rcases this with q | q
     ·rw [hD0] at q; cases q
     ·have q := q.1
      rw [Array.getD_eq_getD_getElem?] at q h1
      rcases hx : f[j0]? with _ | b
      ·rw [hx] at h1; cases h1
      ·rw [hx] at h1 q
       simp only [Option.getD_some] at h1 q
       rw [h1] at q; cases q
    have hsup : ∀ x, listed.getD x false = true → (f.setIfInBounds j0 false).getD x false = true := fun x hx => by
     have hne' : j0 ≠ x := by
      rintro rfl
      rw [Array.getD_eq_getD_getElem?] at hx hu0
      rcases hy : listed[j0]? with _ | b
      ·rw [hy] at hx; cases hx
      ·rw [hy] at hx hu0
       simp only [Option.getD_some] at hx hu0
       rw [hu0] at hx; cases hx
     rw [getD_unset false hne']
     exact i2 _ hx
    have hrd : i ∈ Region.ready md ops (shut md ops m (List.range listed0.size) (f.setIfInBounds j0 false)) :=
     mem_ready.2 ⟨shut_keep _ _ (by rw [getD_unset true hne]; exact h1), o, ho, fun e he hb => shut_sup i4 _ _ hsup _ (hdep e he hb)⟩
    rcases a0.2 with q | q
    ·rw [hD0] at q; cases q
    ·exact q i hrd
   ·have := i3 i h1
    rw [hu] at this
    cases this
   ·exact h1
  rw [show fuel + 1 + rest = fuel + rest + 1 by omega]
  refine ⟨fun hn => absurd (hn ▸ hr0) (by simp), fun i hi => ?_⟩
  have hDi := hin i hi
  refine wpOp_of_qOp hw (fun a' w' hw' hk => wpAny_of_T hm hf hB hQ fuel _ a' w' hw' ⟨by rw [Array.size_setIfInBounds]; exact i1, fun j hj => ?_, fun j hj => ?_, fun k hk hkl => ?_⟩ hk) (h2 i hi hDi)
  ·by_cases hij : i = j
   ·subst hij
    have a1 := hall i (hDlt i hDi)
    simp only [Bool.and_eq_true, Bool.or_eq_true, Bool.not_eq_true'] at a1
    rcases a1.1.1 with q | q
    ·rw [hDi] at q; cases q
    ·exact q.1
   ·rw [getD_set_ne false hij] at hj
    exact i2 j hj
  ·by_cases hij : i = j
   ·subst hij
    have hlt : i < listed.size := by have := hDlt i hDi; omega
    simp [hlt]
   ·rw [getD_set_ne true hij]
    exact i3 j hj
  ·have hsub : ∀ x, listed.getD x false = true → (listed.setIfInBounds i true).getD x false = true := fun x hx => getD_set_true hx
   have hdk : depsIn md ops k listed = true := by
    by_cases hik : i = k
    ·subst hik
     obtain ⟨_, o, ho, hdep⟩ := mem_ready.1 hi
     unfold depsIn
     rw [ho]
     simp only [Option.map_some, Option.getD_some]
     rw [Array.all_eq_true']
     intro e he
     rw [Bool.or_eq_true, Bool.not_eq_true']
     cases hb : Region.binds md e
     ·exact .inl rfl
     ·exact .inr (hdep e he hb)
    ·rw [getD_set_ne false hik] at hkl
     exact i4 k hk hkl
   unfold depsIn at hdk ⊢
   cases ho : ops[k]? with
   | none => rw [ho] at hdk; cases hdk
   | some o =>
    rw [ho] at hdk
    simp only [Option.map_some, Option.getD_some] at hdk ⊢
    rw [Array.all_eq_true'] at hdk ⊢
    intro e he
    have := hdk e he
    rw [Bool.or_eq_true] at this ⊢
    rcases this with q | q
    ·exact .inl q
    ·exact .inr (hsub _ q)
end
section
variable {cx : Cx} {env : Env} {S : St} {o : Oper} {x y : Operand} {ops : Array Oper} {l : List Oper} {K : Env → St → Prop}
theorem AWL.callF {d : Nat} {lo : List Oper} {f : FuncId} {xf : Operand} {xs : Array Operand} {ats : Array TypeId} {fst cap : Array Value} {ts : List T} {F1 S1 F2 : St} {R : T → St → Prop} (hg : o.guard = none) (hd : o.dst = some d) (hN : d < cx.N)
    (ho : o.op = .call { callee := .value xf, args := xs, argTypes := ats }) (hf : calleeB cx.P f = true) (hxf : Ev env true xf (.v (.func (.func f) fst cap))) (hx : Evs env true xs.toList ts) (hS : S = F1 ++ (S1 ++ F2))
    (hc : ACalls cx.P f (fst.toList.map T.v ++ (ts ++ cap.toList.map T.v)) S1 R) (hr : ∀ t S', R t S' → AWL cx ops lo K ((d, true, t) :: env) (F1 ++ (S' ++ F2))) : AWL cx ops (o :: lo) K env S := by
 subst hS
 refine AWL.perm (S' := S1 ++ (F1 ++ F2)) (List.perm_append_comm_assoc S1 F1 F2) ?_
 exact AWL.call hg hd hN ho hf hxf hx (S1 := S1) (S2 := F1 ++ F2) rfl hc (fun t S' h => AWL.perm (S' := F1 ++ (S' ++ F2)) (List.perm_append_comm_assoc F1 S' F2) (hr t S' h))
theorem AWL.callE {d : Nat} {lo : List Oper} {f : FuncId} {xf : Operand} {xs : Array Operand} {ats : Array TypeId} {fst cap : Array Value} {ts : List T} {F1 S1 : St} {R : T → St → Prop} (hg : o.guard = none) (hd : o.dst = some d) (hN : d < cx.N)
    (ho : o.op = .call { callee := .value xf, args := xs, argTypes := ats }) (hf : calleeB cx.P f = true) (hxf : Ev env true xf (.v (.func (.func f) fst cap))) (hx : Evs env true xs.toList ts) (hS : S = F1 ++ S1)
    (hc : ACalls cx.P f (fst.toList.map T.v ++ (ts ++ cap.toList.map T.v)) S1 R) (hr : ∀ t S', R t S' → AWL cx ops lo K ((d, true, t) :: env) (F1 ++ S')) : AWL cx ops (o :: lo) K env S :=
 AWL.callF hg hd hN ho hf hxf hx (F1 := F1) (S1 := S1) (F2 := []) (by rw [List.append_nil]; exact hS) hc (fun t S' h => by rw [List.append_nil]; exact hr t S' h)
theorem AWP.phase {fuel : Nat} {listed : Array Bool} (m : List Bool) (rest : Nat) (hf : m.count true + rest = fuel) (hB : phaseB .any l.toArray m listed = true) (hle : (List.range listed.size).all (fun j => !listed.getD j false || (afterM m 0 listed).getD j false) = true)
    (h : AWQ cx l.toArray (maskL m l) (fun env S => AWP cx l.toArray rest (afterM m 0 listed) K env S) env S) : AWP cx l.toArray fuel listed K env S := by
 intro a w hs
 subst hf
 unfold phaseB at hB
 simp only [Bool.and_eq_true, decide_eq_true_eq] at hB
 obtain ⟨b1, b2, b3, b4, b5⟩ := hB
 have h1 := h a w hs
 refine wpAny_of_T (C := fun w' => Keeps [] w w') b3 b4 b5 (Q := fun f a' => f = afterM m 0 listed ∧ ∀ w', Keeps [] w w' → ∃ env' S', Sim cx env' S' a' w' ∧ AWP cx l.toArray rest (afterM m 0 listed) K env' S') (fun f a' w' hw' hq => ?_) (m.count true) listed a w (Keeps.refl _ _) ⟨rfl, fun j hj => ?_, fun j hj => hj, fun k hk hkl => ?_⟩ ?_
 ·obtain ⟨rfl, hq⟩ := hq
  obtain ⟨env', S', s1, s2⟩ := hq w' hw'
  exact s2 a' w' s1
 ·rw [List.all_eq_true] at hle
  rcases Nat.lt_or_ge j listed.size with h' | h'
  ·have := hle j (List.mem_range.2 h')
   rw [hj] at this
   simpa using this
  rw [Array.getD_eq_getD_getElem?, Array.getElem?_eq_none h'] at hj
  cases hj
 ·exfalso
  have hlt : k < listed.size := by
   rcases Nat.lt_or_ge k listed.size with h' | h'
   ·exact h'
   ·rw [Array.getD_eq_getD_getElem?, Array.getElem?_eq_none h'] at hkl
    cases hkl
  unfold strayB at b5
  rw [List.all_eq_true] at b5
  have := b5 k (List.mem_range.2 hlt)
  simp only [Bool.and_eq_true, Bool.or_eq_true, Bool.not_eq_true'] at this
  rcases this.1.1 with q | q
  ·rw [hk] at q; cases q
  have q := q.2
  rw [Array.getD_eq_getD_getElem?] at q hkl
  rcases hx : listed[k]? with _ | b
  ·rw [hx] at hkl; cases hkl
  rw [hx] at hkl q
  simp only [Option.getD_some] at hkl q
  rw [hkl] at q; cases q
 refine wpT_lex b1 m l 0 listed a (fun j => by simp) b2 (fun j hj => ?_) (fun j hj => ?_) h1
 ·rw [Nat.zero_add, List.getD_eq_getElem?_getD, hj]
  rfl
 left
 refine ⟨j, by omega, ?_⟩
 rw [List.getD_eq_getElem?_getD] at hj
 rcases hx : m[j]? with _ | b
 ·rw [hx] at hj; cases hj
 rw [hx] at hj
 simp only [Option.getD_some] at hj
 rw [hj]
end
section
variable {cx : Cx} {env : Env} {S : St} {o : Oper} {ops : Array Oper} {l : List Oper} {K : Env → St → Prop} {d : Nat}
def evL (env : Env) : List Operand → Option (List T)
 | [] => some []
 | x :: r => match ev env x, plainConst x, evL env r with
  | some (true, t), true, some ts => some (t :: ts)
  | _, _, _ => none
theorem evs_of {env : Env} : ∀ {xs : List Operand} {ts : List T}, evL env xs = some ts → Evs env true xs ts
 | [], ts, h => by
  obtain rfl : [] = ts := Option.some.inj h
  exact evs0
 | x :: r, ts, h => by
  unfold evL at h
  split at h
  ·rename_i t ts' h1 h2 h3
   obtain rfl := Option.some.inj h
   exact evsC (E h1 h2) (evs_of h3)
  ·cases h
theorem cE {f : FuncId} {xf : Operand} {xs : Array Operand} {ats : Array TypeId} {fst cap : Array Value} {ts : List T} {R : T → St → Prop} (hf : calleeB cx.P f = true) (F1 S1 : St) (ho : o.op = .call { callee := .value xf, args := xs, argTypes := ats }) (hxf : ev env xf = some (true, .v (.func (.func f) fst cap))) (hx : evL env xs.toList = some ts)
    (hc : ACalls cx.P f (fst.toList.map T.v ++ (ts ++ cap.toList.map T.v)) S1 R) (hr : ∀ t S', R t S' → AWL cx ops l K ((d, true, t) :: env) (F1 ++ S')) (hS : S = F1 ++ S1 := by rfl) (hpf : plainConst xf = true := by rfl) (hg : o.guard = none := by rfl) (hd : o.dst = some d := by rfl) (hN : d < cx.N := by exact B rfl) : AWL cx ops (o :: l) K env S := AWL.callE hg hd hN ho hf (E hxf hpf) (evs_of hx) hS hc hr
theorem cA {f : FuncId} {xf : Operand} {xs : Array Operand} {ats : Array TypeId} {fst cap : Array Value} {ts : List T} {R : T → St → Prop} (hf : calleeB cx.P f = true) (ho : o.op = .call { callee := .value xf, args := xs, argTypes := ats }) (hxf : ev env xf = some (true, .v (.func (.func f) fst cap))) (hx : evL env xs.toList = some ts)
    (hc : ACalls cx.P f (fst.toList.map T.v ++ (ts ++ cap.toList.map T.v)) S R) (hr : ∀ t S', R t S' → AWL cx ops l K ((d, true, t) :: env) S') (hpf : plainConst xf = true := by rfl) (hg : o.guard = none := by rfl) (hd : o.dst = some d := by rfl) (hN : d < cx.N := by exact B rfl) : AWL cx ops (o :: l) K env S := AWL.callAll hg hd hN ho hf (E hxf hpf) (evs_of hx) hc hr
end
end Go.Proofs.YtecpjlhbkmongaaGreat

namespace Go.Proofs.YtecpjlhbkmongaaGreat
open Go Go.RowKit
section
variable {cx : Cx} {env : Env} {S : St} {o : Oper} {g : Bool} {x y z : Operand} {ops : Array Oper} {l : List Oper} {K : Env → St → Prop} {Q : Exit → Env → St → Prop} {d : Nat}
/-! ### arguments seen as trees for one call that writes nothing -/
def Sees (cx : Cx) (env : Env) (S : St) (g : Bool) (x : Operand) (t : T) : Prop := ∀ a w, Sim cx env S a w → g = true → VRep w [] t (a.eval x)
def Seens (cx : Cx) (env : Env) (S : St) (g : Bool) : List Operand → List T → Prop
 | [], [] => True
 | x :: r, t :: r' => Sees cx env S g x t ∧ Seens cx env S g r r'
 | _, _ => False
theorem Sees.ev {t : T} (h : Ev env g x t) : Sees cx env S g x t := fun a w hs hg => (h.rep hs hg).mono (Nat.le_refl _) (fun _ _ _ => rfl) (fun _ _ hm => by cases hm)
theorem Seens.one {t : T} (h1 : Sees cx env S g x t) : Seens cx env S g [x] [t] := ⟨h1, trivial⟩
def T.isV : T → Bool
 | .v _ => true
 | _ => false
end
end Go.Proofs.YtecpjlhbkmongaaGreat

namespace Go.Proofs.YtecpjlhbkmongaaGreat
open Go Go.RowKit
open Go.ChangeMaps (setBlock)
theorem vreps_plain {w : World} {L : List Nat} {cs : List T} {us : List Value} (hf : cs.all T.isV = true) (h : VReps w L cs us) : us.map T.v = cs := by
 apply List.ext_getElem?
 intro j
 rw [List.getElem?_map]
 cases hc : cs[j]? with
 | none =>
  have : us.length ≤ j := by rw [← h.len]; exact List.getElem?_eq_none_iff.1 hc
  rw [List.getElem?_eq_none this]; rfl
 | some t =>
  obtain ⟨u, hu, hv, _⟩ := h.get hc
  have h4 := List.all_eq_true.1 hf t (List.mem_of_getElem? hc)
  rw [hu]
  cases t with
  | v r => rw [hv.v_inv]; rfl
  | _ => cases h4
section
variable {cx : Cx} {env : Env} {S : St} {o : Oper} {g : Bool} {x y z : Operand} {ops : Array Oper} {l : List Oper} {c : Code} {K : Env → St → Prop} {Q : Exit → Env → St → Prop} {d : Nat}
structure MapRaw (es : List (Key × T)) (ms : Array MapEntry) (clock : Nat) : Prop where
 st : Stamps ms clock
 keys : ms.toList.map (·.key) = es.map (·.1.val)
 vals : ms.toList.map (fun e => T.v e.val) = es.map (·.2)
 one : ∀ e ∈ ms.toList, e.val.oneCell' = true
theorem Sim.raw {a : Act} {w : World} (hs : Sim cx env S a w) {i b : Nat} {ob : Obj} (hi : S[i]? = some (.raw b ob)) : w.heap[b]? = some ob := hs.ents _ (List.mem_of_getElem? hi)
theorem Sim.openMap {a : Act} {w : World} (hs : Sim cx env S a w) {i b : Nat} {es : List (Key × T)} (hi : S[i]? = some (.map b es)) (hf : (es.map (·.2)).all T.isV = true) : ∃ ms clock, MapRaw es ms clock ∧ Sim cx env (S.set i (.raw b (.map ms clock))) a w := by
 obtain ⟨ms, ck, h1, h2, h3, h4⟩ := hs.mapS hi
 have e : ms.toList.map (fun e => T.v e.val) = es.map (·.2) := by
  have := vreps_plain hf h3
  rwa [List.map_map] at this
 exact ⟨ms, ck, ⟨h4, h2, e, fun e he => h3.one _ (List.mem_map.2 ⟨e, he, rfl⟩)⟩, hs.setEnt hi rfl (fun _ _ _ => rfl) rfl rfl rfl rfl h1⟩
theorem AW.openMap {i b : Nat} {es : List (Key × T)} (hi : S[i]? = some (.map b es)) (hf : (es.map (·.2)).all T.isV = true) (hr : ∀ ms clock, MapRaw es ms clock → AW cx c Q env (S.set i (.raw b (.map ms clock)))) : AW cx c Q env S := fun a w hs => by
 obtain ⟨ms, ck, h1, h2⟩ := hs.openMap hi hf
 exact hr ms ck h1 a w h2
end
section
variable {cx : Cx} {env : Env} {S : St} {o : Oper} {x y z : Operand} {ops : Array Oper} {l : List Oper} {K : Env → St → Prop} {d : Nat}
end
theorem ACalls.less {P : Program} {f : FuncId} {ts : List T} {S0 : St} {R R' : T → St → Prop} (h : ACalls P f ts S0 R) (hr : ∀ t S', R t S' → ∃ S'', S''.Sublist S' ∧ R' t S'') : ACalls P f ts S0 R' := fun X w args h1 h2 h3 h4 h5 =>
 (h X w args h1 h2 h3 h4 h5).mono fun e w' ⟨v, t, S', a, b, c, d, e', f', r⟩ => by
  obtain ⟨S'', hs, r'⟩ := hr t S' r
  have hM : (M S'').Sublist (M S') := hs.filterMap _
  have hL : ∀ b, b < w'.heap.size → b ∈ X ++ M S'' → b ∈ X ++ M S' := fun b _ hb => by
   rcases List.mem_append.1 hb with hb | hb
   ·exact List.mem_append.2 (.inl hb)
   ·exact List.mem_append.2 (.inr (hM.subset hb))
  exact ⟨v, t, S'', a, b, hM.nodup c, fun b hb => d b (hM.subset hb), fun e he => (e' e (hs.subset he)).mono (Nat.le_refl _) (fun _ _ => rfl) (fun _ _ _ => rfl) hL, f'.mono (Nat.le_refl _) (fun _ _ _ => rfl) hL, r'⟩
structure Came (ms : Array MapEntry) (L : List MapEntry) : Prop where
 sub : ∀ e ∈ L, e ∈ ms.toList
 nd : (L.map (·.born)).Nodup
theorem Came.nil {ms : Array MapEntry} : Came ms [] := ⟨fun _ h => (by cases h), .nil⟩
theorem nodup_frm {α β : Type} {f : α → β} {l : List α} (h : (l.map f).Nodup) : l.Nodup := by
 induction l with
 | nil => exact .nil
 | cons x r ih =>
  rw [List.map_cons, List.nodup_cons] at h
  rw [List.nodup_cons]
  exact ⟨fun hx => h.1 (List.mem_map.2 ⟨x, hx, rfl⟩), ih h.2⟩
theorem Came.len {ms : Array MapEntry} {L : List MapEntry} {clock : Nat} (h : Came ms L) : L.length ≤ ms.toList.length := (nodup_frm h.nd).length_le_of_subset h.sub
end Go.Proofs.YtecpjlhbkmongaaGreat

namespace Go.Proofs.YtecpjlhbkmongaaGreat
open Go Go.RowKit
abbrev Wd64 := BitVec 64
def zw (a : Wd64) : T := .v (.int .u64 (a.toNat : Int))
theorem wrap_u64 (z : Int) : IntKind.u64.wrap z = z % 18446744073709551616 := by
 unfold IntKind.wrap
 simp [IntKind.signed, IntKind.bits]
theorem wrap_nat (a : Wd64) : IntKind.u64.wrap (a.toNat : Int) = a.toNat := by
 rw [wrap_u64]
 have := a.isLt
 omega
theorem ofInt_word (a : Wd64) : BitVec.ofInt 64 (a.toNat : Int) = a := by
 apply BitVec.eq_of_toNat_eq
 rw [BitVec.toNat_ofInt]
 have := a.isLt
 omega
theorem bits_and (a b : Wd64) : bitsOf .and .u64 (a.toNat : Int) (b.toNat : Int) = ((a &&& b).toNat : Int) := by
 show IntKind.u64.wrap ((BitVec.ofInt 64 (a.toNat : Int) &&& BitVec.ofInt 64 (b.toNat : Int)).toNat : Int) = _
 rw [ofInt_word, ofInt_word, wrap_nat]
theorem bits_xor (a b : Wd64) : bitsOf .xor .u64 (a.toNat : Int) (b.toNat : Int) = ((a ^^^ b).toNat : Int) := by
 show IntKind.u64.wrap ((BitVec.ofInt 64 (a.toNat : Int) ^^^ BitVec.ofInt 64 (b.toNat : Int)).toNat : Int) = _
 rw [ofInt_word, ofInt_word, wrap_nat]
theorem shl_word (a : Wd64) {n : Nat} (hn : n < 64) : shlOf .u64 (a.toNat : Int) (n : Int) = ((a <<< n).toNat : Int) := by
 unfold shlOf
 rw [wrap_u64, BitVec.toNat_shiftLeft, Nat.shiftLeft_eq, show min (n : Int).toNat IntKind.u64.bits = n from by show min n 64 = n; omega, Int.natCast_emod, Int.natCast_mul, Int.natCast_pow]
 rfl
theorem shr_word (a : Wd64) {n : Nat} (hn : n < 64) : shrOf .u64 (a.toNat : Int) (n : Int) = ((a >>> n).toNat : Int) := by
 unfold shrOf
 rw [BitVec.toNat_ushiftRight, Nat.shiftRight_eq_div_pow, show min (n : Int).toNat IntKind.u64.bits = n from by show min n 64 = n; omega]
 rw [Int.fdiv_eq_ediv_of_nonneg _ (by have : (0 : Int) < 2 ^ n := Int.pow_pos (by decide); omega), Int.natCast_ediv, Int.natCast_pow]
 rfl
theorem word_inj (a b : Wd64) : decide ((a.toNat : Int) = (b.toNat : Int)) = decide (a = b) := by
 apply decide_eq_decide.2
 constructor
 ·intro h; exact BitVec.eq_of_toNat_eq (by omega)
 intro h; rw [h]
theorem word_lt (a b : Wd64) : decide ((a.toNat : Int) < (b.toNat : Int)) = decide (a < b) := by
 apply decide_eq_decide.2
 rw [BitVec.lt_def]
 omega
theorem word_le (a b : Wd64) : decide ((a.toNat : Int) ≤ (b.toNat : Int)) = decide (a ≤ b) := by
 apply decide_eq_decide.2
 rw [BitVec.le_def]
 omega
theorem add_word (a b : Wd64) : IntKind.u64.wrap ((a.toNat : Int) + (b.toNat : Int)) = ((a + b).toNat : Int) := by
 rw [wrap_u64, BitVec.toNat_add, Int.natCast_emod, Int.natCast_add]; rfl
theorem sub_word (a b : Wd64) : IntKind.u64.wrap ((a.toNat : Int) - (b.toNat : Int)) = ((a - b).toNat : Int) := by
 rw [wrap_u64, BitVec.toNat_sub]
 have := a.isLt
 have := b.isLt
 omega
section
variable {cx : Cx} {env : Env} {S : St} {o : Oper} {g : Bool} {x y z : Operand} {d : Nat}
theorem Yv.andW {ty yt : TypeId} {a b : Wd64} (ho : o.op = .binOp .and ty x y yt) (hx : Ev env g x (zw a)) (hy : Ev env g y (zw b)) : Yv cx o env S g (zw (a &&& b)) := by
 have h := Yv.bits (cx := cx) (S := S) ho rfl hx hy; rw [bits_and] at h; exact h
theorem Yv.xorW {ty yt : TypeId} {a b : Wd64} (ho : o.op = .binOp .xor ty x y yt) (hx : Ev env g x (zw a)) (hy : Ev env g y (zw b)) : Yv cx o env S g (zw (a ^^^ b)) := by
 have h := Yv.bits (cx := cx) (S := S) ho rfl hx hy; rw [bits_xor] at h; exact h
theorem Yv.shlW {ty yt : TypeId} {k : IntKind} {a : Wd64} {n : Nat} (ho : o.op = .binOp .shl ty x y yt) (hx : Ev env g x (zw a)) (hy : Ev env g y (.v (.int k (n : Int)))) (hn : n < 64) : Yv cx o env S g (zw (a <<< n)) := by
 have h := Yv.shl (cx := cx) (S := S) ho hx hy (fun _ => by omega); rw [shl_word a hn] at h; exact h
theorem Yv.shrW {ty yt : TypeId} {k : IntKind} {a : Wd64} {n : Nat} (ho : o.op = .binOp .shr ty x y yt) (hx : Ev env g x (zw a)) (hy : Ev env g y (.v (.int k (n : Int)))) (hn : n < 64) : Yv cx o env S g (zw (a >>> n)) := by
 have h := Yv.shr (cx := cx) (S := S) ho hx hy (fun _ => by omega); rw [shr_word a hn] at h; exact h
theorem Yv.eqlW {ty yt : TypeId} {a b : Wd64} (ho : o.op = .binOp .eql ty x y yt) (hx : Ev env g x (zw a)) (hy : Ev env g y (zw b)) : Yv cx o env S g (.v (.bool (decide (a = b)))) := by
 have h := Yv.eql (cx := cx) (S := S) ho hx hy; rw [word_inj] at h; exact h
theorem Yv.neqW {ty yt : TypeId} {a b : Wd64} (ho : o.op = .binOp .neq ty x y yt) (hx : Ev env g x (zw a)) (hy : Ev env g y (zw b)) : Yv cx o env S g (.v (.bool (!decide (a = b)))) := by
 have h := Yv.neq (cx := cx) (S := S) ho hx hy; rw [word_inj] at h; exact h
theorem Yv.lssW {ty yt : TypeId} {a b : Wd64} (ho : o.op = .binOp .lss ty x y yt) (hx : Ev env g x (zw a)) (hy : Ev env g y (zw b)) : Yv cx o env S g (.v (.bool (decide (a < b)))) := by
 have h := Yv.lss (cx := cx) (S := S) ho hx hy; rw [word_lt] at h; exact h
theorem Yv.leqW {ty yt : TypeId} {a b : Wd64} (ho : o.op = .binOp .leq ty x y yt) (hx : Ev env g x (zw a)) (hy : Ev env g y (zw b)) : Yv cx o env S g (.v (.bool (decide (a ≤ b)))) := by
 have h := Yv.leq (cx := cx) (S := S) ho hx hy; rw [word_le] at h; exact h
theorem Yv.gtrW {ty yt : TypeId} {a b : Wd64} (ho : o.op = .binOp .gtr ty x y yt) (hx : Ev env g x (zw a)) (hy : Ev env g y (zw b)) : Yv cx o env S g (.v (.bool (decide (b < a)))) := by
 have h := Yv.gtr (cx := cx) (S := S) ho hx hy; rw [word_lt] at h; exact h
theorem Yv.geqW {ty yt : TypeId} {a b : Wd64} (ho : o.op = .binOp .geq ty x y yt) (hx : Ev env g x (zw a)) (hy : Ev env g y (zw b)) : Yv cx o env S g (.v (.bool (decide (b ≤ a)))) := by
 have h := Yv.geq (cx := cx) (S := S) ho hx hy; rw [word_le] at h; exact h
theorem Yv.addW {ty yt : TypeId} {a b : Wd64} (ho : o.op = .binOp .add ty x y yt) (hx : Ev env g x (zw a)) (hy : Ev env g y (zw b)) : Yv cx o env S g (zw (a + b)) := by
 have h := Yv.add (cx := cx) (S := S) ho hx hy; rw [add_word] at h; exact h
theorem Yv.subW {ty yt : TypeId} {a b : Wd64} (ho : o.op = .binOp .sub ty x y yt) (hx : Ev env g x (zw a)) (hy : Ev env g y (zw b)) : Yv cx o env S g (zw (a - b)) := by
 have h := Yv.sub (cx := cx) (S := S) ho hx hy; rw [sub_word] at h; exact h
end
/-! ### a region that draws its order, gone through by what is done -/
section
variable {cx : Cx} {env : Env} {S : St} {ops : Array Oper} {K : Env → St → Prop}
theorem AWP.to {fuel : Nat} {listed listed' : Array Bool} {env' : Env} {S' : St} (h : AWP cx ops fuel listed' K env' S') (hl : listed = listed') (hs : S = S') (hsub : Sub env' env) : AWP cx ops fuel listed K env S := by
 subst hl; subst hs
 exact fun a w hs => h a w (hs.weaken hsub)
end
section
variable {cx : Cx} {env : Env} {S : St} {o : Oper} {x : Operand} {ops : Array Oper} {l : List Oper} {K : Env → St → Prop} {d : Nat} {t : T} {Hd : World → Prop}
theorem to' {fuel : Nat} {listed listed' : Array Bool} {env' : Env} {S' : St} (h : AWP cx ops fuel listed' K env' S') (hsub : Sub env' env) (hl : listed = listed' := by kernel_rfl) (hs : S = S' := by rfl) : AWP cx ops fuel listed K env S := AWP.to h hl hs hsub
end
end Go.Proofs.YtecpjlhbkmongaaGreat

namespace Go.Proofs.YtecpjlhbkmongaaGreat
open Go Go.RowKit
section
variable {cx : Cx} {env : Env} {S : St} {o : Oper} {ops : Array Oper} {l : List Oper} {K : Env → St → Prop} {Q : Exit → Env → St → Prop}
end
/-! ### cells that a region does not write: their loads are taken first -/
def HeldCs (l : List (Nat × Nat × Value)) (w : World) : Prop := ∀ q ∈ l, w.cell? ⟨q.1, q.2.1, none⟩ = some q.2.2
def Pin (t : T) (u : Value) : Prop := ∀ w L v, VRep w L t v → v = u
theorem pinV {u : Value} : Pin (.v u) u := fun _ _ _ h => h.v_inv
def tellE (e : Ent) (q : Nat × Nat × Value) : Prop :=
 match e with
 | .box b _ cs => b = q.1 ∧ ∃ t, cs[q.2.1]? = some t ∧ Pin t q.2.2
 | .row A _ _ _ _ cs => A = some ⟨q.1, 0, none⟩ ∧ ∃ t, cs[q.2.1]? = some t ∧ Pin t q.2.2
 | _ => False
def TellsC (S : St) (l : List (Nat × Nat × Value)) : Prop := ∀ q ∈ l, ∃ e ∈ S, tellE e q
theorem tc0 {S : St} : TellsC S [] := fun _ h => by cases h
theorem tcB {S : St} {l : List (Nat × Nat × Value)} {b p : Nat} {ty : TypeId} {cs : List T} {t : T} {u : Value} (k : Nat) (hk : S[k]? = some (.box b ty cs)) (hp : cs[p]? = some t) (hu : Pin t u) (h : TellsC S l) : TellsC S ((b, p, u) :: l) := fun q hq => by
 rcases List.mem_cons.1 hq with rfl | hq
 ·exact ⟨_, List.mem_of_getElem? hk, rfl, t, hp, hu⟩
 ·exact h q hq
section
variable {cx : Cx} {env : Env} {S : St} {o : Oper} {x : Operand} {ops : Array Oper} {K : Env → St → Prop} {Hd : World → Prop} {d : Nat}
theorem tells_cs {l : List (Nat × Nat × Value)} (h : TellsC S l) : Tells cx (HeldCs l) env S := fun a w hs q hq => by
 obtain ⟨e, he, ht⟩ := h q hq
 obtain ⟨i, hi⟩ := List.getElem?_of_mem he
 cases e with
 | box b ty cs =>
  obtain ⟨rfl, t, h1, h2⟩ := ht
  obtain ⟨us, hh, hV⟩ := hs.box hi
  obtain ⟨u, g1, g2, _⟩ := hV.get h1
  rw [cell_of_heap hh, g1, h2 _ _ _ g2]
 | row A n c e k cs =>
  obtain ⟨rfl, t, h1, h2⟩ := ht
  obtain ⟨us, hr, hV⟩ := hs.row hi
  obtain ⟨u, g1, g2, _⟩ := hV.get h1
  rw [hr.cell g1, h2 _ _ _ g2]
 | _ => exact ht.elim
theorem heldB {l : List (Nat × Nat × Value)} {b p n : Nat} {t : TypeId} {u : Value} {r : T} (j : Nat) (ho : o.op = .load t x) (h : aggSize cx.P t = some (false, n)) (hx : Ev env true x (.v (.pointer (some ⟨b, p, none⟩)))) (hu : l[j]? = some (b, p, u)) (ht : ∀ w L, VRep w L r u) :
    ∀ a w, Sim cx env S a w → ∃ u', VRep w (cx.X ++ M S) r u' ∧ ∀ w', HeldCs l w' → (execOp a.eval o).run cx.P w' = .ok (.value u') w' := fun a w hs =>
 ⟨u, ht _ _, fun w' hd => exec_load ho w' (by rw [hx.val hs rfl]; exact run_loadAt_one h w' (hd _ (List.mem_of_getElem? hu)))⟩
theorem AWH.to {fuel : Nat} {listed listed' : Array Bool} {env' : Env} {S' : St} (h : AWH cx ops Hd fuel listed' K env' S') (hl : listed = listed') (hs : S = S') (hsub : Sub env' env) : AWH cx ops Hd fuel listed K env S := by
 subst hl; subst hs
 exact fun a w hs => h a w (hs.weaken hsub)
theorem kpH {fuel i : Nat} {listed : Array Bool} {l : List (Nat × Nat × Value)} (h1 : TellsC S l) (h : AWH cx ops (HeldCs l) fuel (listed.setIfInBounds i true) K env S) : Tells cx (HeldCs l) env S ∧ AWH cx ops (HeldCs l) fuel (listed.setIfInBounds i true) K env S := ⟨tells_cs h1, h⟩
end
section
variable {cx : Cx} {env : Env} {S : St} {ops : Array Oper} {l : List Oper} {K : Env → St → Prop} {Q : Exit → Env → St → Prop}
end
section
variable {cx : Cx} {env : Env} {S : St} {o : Oper} {g : Bool} {x y : Operand}
end
theorem ACalls.le {P : Program} {f : FuncId} {ts ts' : List T} {S0 : St} {R : T → St → Prop} (h : ACalls P f ts' S0 R) (hl : Les ts ts') : ACalls P f ts S0 R :=
 fun X w args h1 h2 h3 h4 h5 => h X w args h1 h2 h3 (h4.trans hl.len) fun j t' u ht hu => by
  have hj : j < ts.length := by
   rw [hl.len]
   exact (List.getElem?_eq_some_iff.1 ht).1
  exact hl.at_ j _ _ (List.getElem?_eq_getElem hj) ht _ _ _ (h5 j _ u (List.getElem?_eq_getElem hj) hu)
section
variable {cx : Cx} {env : Env} {S : St} {o : Oper} {x : Operand} {ops : Array Oper} {l : List Oper} {K : Env → St → Prop} {d : Nat} {t : T} {Hd : World → Prop}
theorem th {fuel : Nat} {listed listed' : Array Bool} {env' : Env} {S' : St} (h : AWH cx ops Hd fuel listed' K env' S') (hsub : Sub env' env) (hl : listed = listed' := by kernel_rfl) (hs : S = S' := by rfl) : AWH cx ops Hd fuel listed K env S := AWH.to h hl hs hsub
theorem T2 {i fuel : Nat} {listed : Array Bool} (hi : ops[i]? = some o) (hy : ∀ a w, Sim cx env S a w → ∃ u, VRep w (cx.X ++ M S) t u ∧ ∀ w', Hd w' → (execOp a.eval o).run cx.P w' = .ok (.value u) w') (h : AWH cx ops Hd fuel (listed.setIfInBounds i true) K ((d, true, t) :: env) S) (hs : Region.noSelect ops = true := by kernel_rfl) (hf : Region.free .any ops listed i = true := by kernel_rfl) (hr : (Region.ready .any ops listed).contains i = true := by kernel_rfl) (hg : o.guard = none := by rfl) (hd : o.dst = some d := by rfl) (hN : d < cx.N := by exact B rfl) : AWH cx ops Hd (fuel + 1) listed K env S := AWH.take hi hs hf hr hg hd hN hy h
end
end Go.Proofs.YtecpjlhbkmongaaGreat

namespace Go.Proofs.YtecpjlhbkmongaaGreat
open Go Go.RowKit
theorem M_perm {S S' : St} (h : S.Perm S') : (M S).Perm (M S') := h.filterMap _
theorem VRep.permL {w : World} {X : List Nat} {S S' : St} {t : T} {u : Value} (h : S.Perm S') (hv : VRep w (X ++ M S) t u) : VRep w (X ++ M S') t u :=
 hv.mono (Nat.le_refl _) (fun _ _ _ => rfl) (fun b _ hm => by
  rcases List.mem_append.1 hm with q | q
  ·exact List.mem_append.2 (.inl q)
  ·exact List.mem_append.2 (.inr ((M_perm h).symm.subset q)))
theorem Ent.permL {w : World} {X : List Nat} {S S' : St} {e : Ent} (h : S.Perm S') (hv : e.holds w (X ++ M S)) : e.holds w (X ++ M S') :=
 hv.mono (Nat.le_refl _) (fun _ _ => rfl) (fun _ _ _ => rfl) (fun b _ hm => by
  rcases List.mem_append.1 hm with q | q
  ·exact List.mem_append.2 (.inl q)
  ·exact List.mem_append.2 (.inr ((M_perm h).symm.subset q)))
theorem ACalls.permR {P : Program} {f : FuncId} {ts : List T} {S0 : St} {R R' : T → St → Prop} (h : ACalls P f ts S0 R) (hr : ∀ t S', R t S' → ∃ S'', S''.Perm S' ∧ R' t S'') : ACalls P f ts S0 R' := fun X w args h1 h2 h3 h4 h5 =>
 (h X w args h1 h2 h3 h4 h5).mono fun e w' ⟨v, t, S', a, b, c, d, e', f', r⟩ => by
  obtain ⟨S'', hp, r'⟩ := hr t S' r
  exact ⟨v, t, S'', a, b, (M_perm hp).nodup_iff.2 c, fun b hb => d b ((M_perm hp).subset hb), fun e he => Ent.permL hp.symm (e' e (hp.subset he)), VRep.permL hp.symm f', r'⟩
theorem ACalls.lessR {P : Program} {f : FuncId} {ts : List T} {S0 : St} {R R' : T → St → Prop} (h : ACalls P f ts S0 R) (hr : ∀ t S', R t S' → ∃ S'' l, l.Sublist S' ∧ S''.Perm l ∧ R' t S'') : ACalls P f ts S0 R' :=
 (h.less (R' := fun t S => ∃ S'', S''.Perm S ∧ R' t S'') fun t S' r => by
  obtain ⟨S'', l, hs, hl, r'⟩ := hr t S' r
  exact ⟨l, hs, S'', hl, r'⟩).permR fun t S' r => r
end Go.Proofs.YtecpjlhbkmongaaGreat

namespace Go.Proofs.YtecpjlhbkmongaaGreat
open Go Go.RowKit
abbrev Gh := Option Addr × Nat
structure FKey where
 c : Nat
 u1 : List Nat
 e1 : List Gh → Ent
 s : Nat
 u2 : List Nat
 e2 : List Gh → Ent
structure FOp where
 i : Nat
 d : Option Nat
 deps : List Nat
 us : List Nat
 t : List Gh → T
 inv : Gh → Prop
instance : Inhabited FOp := ⟨⟨0, none, [], [], fun _ => .v (.bool false), fun _ => True⟩⟩
section
variable {cx : Cx} {env env0 : Env} {S base : St} {ops : Array Oper} {K : Env → St → Prop} {F : List FOp} {ks : List FKey}
end
section
variable {cx : Cx} {env : Env} {S : St} {o : Oper} {x : Operand} {ops : Array Oper} {l : List Oper} {K : Env → St → Prop} {d : Nat} {t : T}
abbrev zv (n : Nat) : T := .v (.int .i64 (n : Int))
abbrev pv (b : Nat) : T := .v (.pointer (some ⟨b, 0, none⟩))
abbrev z93 (b : Nat) : Ent := .box b 93 (([.string ⟨#[]⟩, .int .i64 0, .int .i64 0, .int .i64 0, .slice none 0 0] : List Value).map T.v)
abbrev p87 (b p : Nat) : Ent := .box b 87 [.v (.pointer (some ⟨p, 0, none⟩))]
abbrev i3 (b : Nat) (x : Int) : Ent := .box b 3 [.v (.int .i64 x)]
abbrev z58 (b : Nat) : Ent := .box b 58 (([.int .i64 0, .int .i64 0, .int .i64 0, .int .i64 0, .int .i64 0, .int .i64 0, .int .i64 0, .int .i64 0, .int .i64 0, .int .i64 0, .slice none 0 0]).map T.v)
abbrev z101 (b : Nat) : Ent := .box b 101 (([.slice none 0 0]).map T.v)
def bA (n m : Nat) : Array Bool := ((List.range n).map fun i => m.testBit i).toArray
theorem odt {p : Prop} [Decidable p] (h : decide p = true) : p := of_decide_eq_true h
theorem odf {p : Prop} [Decidable p] (h : decide p = false) : ¬p := of_decide_eq_false h
theorem nB {a b : Nat} (h : Nat.ble a b = true := by rfl) : a ≤ b := Nat.le_of_ble_eq_true h
theorem su {env' env : Env} {k : Nat} {c : Bool} {t t' : T} (h : Sub env' env) (hk : get k env = some (c, t') := by rfl) (ht : t = t' := by rfl) : Sub ((k, c, t) :: env') env := Sub.cons hk ht h
theorem sn {env : Env} : Sub [] env := Sub.nil
theorem rs {id : Nat} {y : Code} {Q : Exit → Env → St → Prop} (h : AWL cx l.toArray l (AW cx y Q) env S) : AW cx (.seq (.region id l.toArray false) y) Q env S := AW.rseq h
theorem Q1 (hy : Yv cx o env S true t) (h : AWQ cx ops l K ((d, true, t) :: env) S) (hg : o.guard = none := by rfl) (hd : o.dst = some d := by rfl) (hN : d < cx.N := by exact B rfl) : AWQ cx ops (o :: l) K env S := AWQ.y hg hd hN hy h
theorem ya (h : K ((d, true, t) :: env) S) (ho : o.op = .assign x := by rfl) (hx : ev env x = some (true, t) := by rfl) (hp : plainConst x = true := by rfl) (hg : o.guard = none := by rfl) (hd : o.dst = some d := by rfl) (hN : d < cx.N := by exact B rfl) : AWL cx ops [o] K env S := Y1 (Yv.assign ho (E hx hp)) (nl h) hg hd hN
theorem ra {id : Nat} {y : Code} {Q : Exit → Env → St → Prop} (h : AW cx y Q ((d, true, t) :: env) S) (ho : o.op = .assign x := by rfl) (hx : ev env x = some (true, t) := by rfl) (hp : plainConst x = true := by rfl) (hg : o.guard = none := by rfl) (hd : o.dst = some d := by rfl) (hN : d < cx.N := by exact B rfl) : AW cx (.seq (.region id [o].toArray false) y) Q env S := AW.rseq (ya h ho hx hp hg hd hN)
theorem ym (h : AWL cx ops l K ((d, true, t) :: env) S) (ho : o.op = .move x := by rfl) (hx : ev env x = some (true, t) := by rfl) (hp : plainConst x = true := by rfl) (hg : o.guard = none := by rfl) (hd : o.dst = some d := by rfl) (hN : d < cx.N := by exact B rfl) : AWL cx ops (o :: l) K env S := Y1 (Yv.move ho (E hx hp)) h hg hd hN
theorem qm (h : AWQ cx ops l K ((d, true, t) :: env) S) (ho : o.op = .move x := by rfl) (hx : ev env x = some (true, t) := by rfl) (hp : plainConst x = true := by rfl) (hg : o.guard = none := by rfl) (hd : o.dst = some d := by rfl) (hN : d < cx.N := by exact B rfl) : AWQ cx ops (o :: l) K env S := Q1 (Yv.move ho (E hx hp)) h hg hd hN
theorem yl {ty tz : TypeId} {n p b : Nat} {cs : List T} (ha : aggSize cx.P ty = some (false, n)) (i : Nat) (h : AWL cx ops l K ((d, true, t) :: env) S) (ho : o.op = .load ty x := by rfl) (hx : ev env x = some (true, (.v (.pointer (some ⟨b, p, none⟩)))) := by rfl) (hp : plainConst x = true := by rfl) (hi : S[i]? = some (.box b tz cs) := by rfl) (hr : cs[p]? = some t := by rfl) (hg : o.guard = none := by rfl) (hd : o.dst = some d := by rfl) (hN : d < cx.N := by exact B rfl) : AWL cx ops (o :: l) K env S := Y1 (Yv.loadBox ho ha hi (E hx hp) hr) h hg hd hN
theorem yf {s : TypeId} {i off b p : Nat} (ha : fieldOff cx.P s i = some off) (h : AWL cx ops l K ((d, true, .v (.pointer (some ⟨b, p + off, none⟩))) :: env) S) (ho : o.op = .fieldAddr s x i := by rfl) (hx : ev env x = some (true, (.v (.pointer (some ⟨b, p, none⟩)))) := by rfl) (hp : plainConst x = true := by rfl) (hg : o.guard = none := by rfl) (hd : o.dst = some d := by rfl) (hN : d < cx.N := by exact B rfl) : AWL cx ops (o :: l) K env S := Y1 (Yv.fieldBox ho ha (E hx hp)) h hg hd hN
theorem ql {ty tz : TypeId} {n p b : Nat} {cs : List T} (ha : aggSize cx.P ty = some (false, n)) (i : Nat) (h : AWQ cx ops l K ((d, true, t) :: env) S) (ho : o.op = .load ty x := by rfl) (hx : ev env x = some (true, (.v (.pointer (some ⟨b, p, none⟩)))) := by rfl) (hp : plainConst x = true := by rfl) (hi : S[i]? = some (.box b tz cs) := by rfl) (hr : cs[p]? = some t := by rfl) (hg : o.guard = none := by rfl) (hd : o.dst = some d := by rfl) (hN : d < cx.N := by exact B rfl) : AWQ cx ops (o :: l) K env S := Q1 (Yv.loadBox ho ha hi (E hx hp) hr) h hg hd hN
theorem qf {s : TypeId} {i off b p : Nat} (ha : fieldOff cx.P s i = some off) (h : AWQ cx ops l K ((d, true, .v (.pointer (some ⟨b, p + off, none⟩))) :: env) S) (ho : o.op = .fieldAddr s x i := by rfl) (hx : ev env x = some (true, (.v (.pointer (some ⟨b, p, none⟩)))) := by rfl) (hp : plainConst x = true := by rfl) (hg : o.guard = none := by rfl) (hd : o.dst = some d := by rfl) (hN : d < cx.N := by exact B rfl) : AWQ cx ops (o :: l) K env S := Q1 (Yv.fieldBox ho ha (E hx hp)) h hg hd hN
theorem gT {j dj : Nat} {c b : Bool} (hy : Yv cx o env S (c && b) t) (h : AWL cx ops l K ((d, (c && b), t) :: env) S) (hg : o.guard = some (j, true) := by rfl) (hj : (ops[j]?).bind (·.dst) = some dj := by rfl) (hk : get dj env = some (c, .v (.bool b)) := by rfl) (hd : o.dst = some d := by rfl) (hN : d < cx.N := by exact B rfl) : AWL cx ops (o :: l) K env S := AWL.ygT hg hj hk hd hN hy h
theorem gF {j dj : Nat} {c b : Bool} (hy : Yv cx o env S (c && !b) t) (h : AWL cx ops l K ((d, (c && !b), t) :: env) S) (hg : o.guard = some (j, false) := by rfl) (hj : (ops[j]?).bind (·.dst) = some dj := by rfl) (hk : get dj env = some (c, .v (.bool b)) := by rfl) (hd : o.dst = some d := by rfl) (hN : d < cx.N := by exact B rfl) : AWL cx ops (o :: l) K env S := AWL.ygF hg hj hk hd hN hy h
theorem kT {j dj : Nat} {c b : Bool} (hy : Yv cx o env S (c && b) t) (h : AWQ cx ops l K ((d, (c && b), t) :: env) S) (hg : o.guard = some (j, true) := by rfl) (hj : (ops[j]?).bind (·.dst) = some dj := by rfl) (hk : get dj env = some (c, .v (.bool b)) := by rfl) (hd : o.dst = some d := by rfl) (hN : d < cx.N := by exact B rfl) : AWQ cx ops (o :: l) K env S := AWQ.ygT hg hj hk hd hN hy h
theorem kF {j dj : Nat} {c b : Bool} (hy : Yv cx o env S (c && !b) t) (h : AWQ cx ops l K ((d, (c && !b), t) :: env) S) (hg : o.guard = some (j, false) := by rfl) (hj : (ops[j]?).bind (·.dst) = some dj := by rfl) (hk : get dj env = some (c, .v (.bool b)) := by rfl) (hd : o.dst = some d := by rfl) (hN : d < cx.N := by exact B rfl) : AWQ cx ops (o :: l) K env S := AWQ.ygF hg hj hk hd hN hy h
theorem pi0 {e : Ent} {G : St} (h : AWL cx ops l K env (e :: G)) : AWL cx ops l K env ((G) ++ [e]) := AWL.perm ((List.perm_middle (l₁ := [])).trans (List.perm_append_singleton _ _).symm) h
theorem pi1 {a0 : Ent} {e : Ent} {G : St} (h : AWL cx ops l K env (a0 :: e :: G)) : AWL cx ops l K env ((a0 :: G) ++ [e]) := AWL.perm ((List.perm_middle (l₁ := [a0])).trans (List.perm_append_singleton _ _).symm) h
theorem pi2 {a0 a1 : Ent} {e : Ent} {G : St} (h : AWL cx ops l K env (a0 :: a1 :: e :: G)) : AWL cx ops l K env ((a0 :: a1 :: G) ++ [e]) := AWL.perm ((List.perm_middle (l₁ := [a0, a1])).trans (List.perm_append_singleton _ _).symm) h
theorem pi3 {a0 a1 a2 : Ent} {e : Ent} {G : St} (h : AWL cx ops l K env (a0 :: a1 :: a2 :: e :: G)) : AWL cx ops l K env ((a0 :: a1 :: a2 :: G) ++ [e]) := AWL.perm ((List.perm_middle (l₁ := [a0, a1, a2])).trans (List.perm_append_singleton _ _).symm) h
theorem pi4 {a0 a1 a2 a3 : Ent} {e : Ent} {G : St} (h : AWL cx ops l K env (a0 :: a1 :: a2 :: a3 :: e :: G)) : AWL cx ops l K env ((a0 :: a1 :: a2 :: a3 :: G) ++ [e]) := AWL.perm ((List.perm_middle (l₁ := [a0, a1, a2, a3])).trans (List.perm_append_singleton _ _).symm) h
theorem pi5 {a0 a1 a2 a3 a4 : Ent} {e : Ent} {G : St} (h : AWL cx ops l K env (a0 :: a1 :: a2 :: a3 :: a4 :: e :: G)) : AWL cx ops l K env ((a0 :: a1 :: a2 :: a3 :: a4 :: G) ++ [e]) := AWL.perm ((List.perm_middle (l₁ := [a0, a1, a2, a3, a4])).trans (List.perm_append_singleton _ _).symm) h
theorem pi6 {a0 a1 a2 a3 a4 a5 : Ent} {e : Ent} {G : St} (h : AWL cx ops l K env (a0 :: a1 :: a2 :: a3 :: a4 :: a5 :: e :: G)) : AWL cx ops l K env ((a0 :: a1 :: a2 :: a3 :: a4 :: a5 :: G) ++ [e]) := AWL.perm ((List.perm_middle (l₁ := [a0, a1, a2, a3, a4, a5])).trans (List.perm_append_singleton _ _).symm) h
theorem pi7 {a0 a1 a2 a3 a4 a5 a6 : Ent} {e : Ent} {G : St} (h : AWL cx ops l K env (a0 :: a1 :: a2 :: a3 :: a4 :: a5 :: a6 :: e :: G)) : AWL cx ops l K env ((a0 :: a1 :: a2 :: a3 :: a4 :: a5 :: a6 :: G) ++ [e]) := AWL.perm ((List.perm_middle (l₁ := [a0, a1, a2, a3, a4, a5, a6])).trans (List.perm_append_singleton _ _).symm) h
theorem pi8 {a0 a1 a2 a3 a4 a5 a6 a7 : Ent} {e : Ent} {G : St} (h : AWL cx ops l K env (a0 :: a1 :: a2 :: a3 :: a4 :: a5 :: a6 :: a7 :: e :: G)) : AWL cx ops l K env ((a0 :: a1 :: a2 :: a3 :: a4 :: a5 :: a6 :: a7 :: G) ++ [e]) := AWL.perm ((List.perm_middle (l₁ := [a0, a1, a2, a3, a4, a5, a6, a7])).trans (List.perm_append_singleton _ _).symm) h
theorem pi9 {a0 a1 a2 a3 a4 a5 a6 a7 a8 : Ent} {e : Ent} {G : St} (h : AWL cx ops l K env (a0 :: a1 :: a2 :: a3 :: a4 :: a5 :: a6 :: a7 :: a8 :: e :: G)) : AWL cx ops l K env ((a0 :: a1 :: a2 :: a3 :: a4 :: a5 :: a6 :: a7 :: a8 :: G) ++ [e]) := AWL.perm ((List.perm_middle (l₁ := [a0, a1, a2, a3, a4, a5, a6, a7, a8])).trans (List.perm_append_singleton _ _).symm) h
theorem pi10 {a0 a1 a2 a3 a4 a5 a6 a7 a8 a9 : Ent} {e : Ent} {G : St} (h : AWL cx ops l K env (a0 :: a1 :: a2 :: a3 :: a4 :: a5 :: a6 :: a7 :: a8 :: a9 :: e :: G)) : AWL cx ops l K env ((a0 :: a1 :: a2 :: a3 :: a4 :: a5 :: a6 :: a7 :: a8 :: a9 :: G) ++ [e]) := AWL.perm ((List.perm_middle (l₁ := [a0, a1, a2, a3, a4, a5, a6, a7, a8, a9])).trans (List.perm_append_singleton _ _).symm) h
theorem pi11 {a0 a1 a2 a3 a4 a5 a6 a7 a8 a9 a10 : Ent} {e : Ent} {G : St} (h : AWL cx ops l K env (a0 :: a1 :: a2 :: a3 :: a4 :: a5 :: a6 :: a7 :: a8 :: a9 :: a10 :: e :: G)) : AWL cx ops l K env ((a0 :: a1 :: a2 :: a3 :: a4 :: a5 :: a6 :: a7 :: a8 :: a9 :: a10 :: G) ++ [e]) := AWL.perm ((List.perm_middle (l₁ := [a0, a1, a2, a3, a4, a5, a6, a7, a8, a9, a10])).trans (List.perm_append_singleton _ _).symm) h
theorem pi12 {a0 a1 a2 a3 a4 a5 a6 a7 a8 a9 a10 a11 : Ent} {e : Ent} {G : St} (h : AWL cx ops l K env (a0 :: a1 :: a2 :: a3 :: a4 :: a5 :: a6 :: a7 :: a8 :: a9 :: a10 :: a11 :: e :: G)) : AWL cx ops l K env ((a0 :: a1 :: a2 :: a3 :: a4 :: a5 :: a6 :: a7 :: a8 :: a9 :: a10 :: a11 :: G) ++ [e]) := AWL.perm ((List.perm_middle (l₁ := [a0, a1, a2, a3, a4, a5, a6, a7, a8, a9, a10, a11])).trans (List.perm_append_singleton _ _).symm) h
theorem pi13 {a0 a1 a2 a3 a4 a5 a6 a7 a8 a9 a10 a11 a12 : Ent} {e : Ent} {G : St} (h : AWL cx ops l K env (a0 :: a1 :: a2 :: a3 :: a4 :: a5 :: a6 :: a7 :: a8 :: a9 :: a10 :: a11 :: a12 :: e :: G)) : AWL cx ops l K env ((a0 :: a1 :: a2 :: a3 :: a4 :: a5 :: a6 :: a7 :: a8 :: a9 :: a10 :: a11 :: a12 :: G) ++ [e]) := AWL.perm ((List.perm_middle (l₁ := [a0, a1, a2, a3, a4, a5, a6, a7, a8, a9, a10, a11, a12])).trans (List.perm_append_singleton _ _).symm) h
theorem T1 {i fuel : Nat} {listed : Array Bool} (hi : ops[i]? = some o) (hy : ∀ a w, Sim cx env S a w → ∃ u, VRep w (cx.X ++ M S) t u ∧ ∀ w', (execOp a.eval o).run cx.P w' = .ok (.value u) w') (h : AWP cx ops fuel (listed.setIfInBounds i true) K ((d, true, t) :: env) S) (hs : Region.noSelect ops = true := by kernel_rfl) (hf : Region.free .any ops listed i = true := by kernel_rfl) (hr : (Region.ready .any ops listed).contains i = true := by kernel_rfl) (hg : o.guard = none := by rfl) (hd : o.dst = some d := by rfl) (hN : d < cx.N := by exact B rfl) : AWP cx ops (fuel + 1) listed K env S := AWP.take hi hs hf hr hg hd hN hy h
theorem p1 {fuel : Nat} {listed : Array Bool} (i : Nat) (h : AWL cx ops [o] (AWP cx ops fuel (listed.setIfInBounds i true) K) env S) (hi : ops[i]? = some o := by rfl) (hr : Region.ready .any ops listed = [i] := by kernel_rfl) : AWP cx ops (fuel + 1) listed K env S := AWP.one hr hi h
end
end Go.Proofs.YtecpjlhbkmongaaGreat
