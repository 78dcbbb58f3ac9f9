/-
  WHAT IS NUMBERED BY BREADTH is numbered already: the numbering of what comes out of it is itself.
-/
import Derived.Test.YtbndnmmceccbkaaTurn
namespace Go.Proofs.Ytbndnmmceccbkaa
open Go Go.RowKit
def ixN (R : List Int) (z : Int) : Int := (((ixOf R z).getD 0 : Nat) : Int)
theorem ixOf_append : ∀ {row e : List Int} {z : Int} {i : Nat}, ixOf row z = some i → ixOf (row ++ e) z = some i
  | [], e, z, i, h => by cases h
  | x :: r, e, z, i, h => by
    simp only [List.cons_append, ixOf] at h ⊢
    split
    · rename_i hx; rw [if_pos hx] at h; exact h
    · rename_i hx
      rw [if_neg hx] at h
      simp only [Option.map_eq_some_iff] at h ⊢
      obtain ⟨j, hj, he⟩ := h
      exact ⟨j, ixOf_append hj, he⟩
theorem ixOf_fresh : ∀ {row : List Int} {z : Int}, ixOf row z = none → ixOf (row ++ [z]) z = some row.length
  | [], z, _ => by simp [ixOf]
  | x :: r, z, h => by
    simp only [ixOf] at h
    split at h
    · cases h
    · rename_i hx
      simp only [List.cons_append, ixOf]
      rw [if_neg hx, ixOf_fresh (by simpa using h)]
      rfl
theorem ixN_of {row e : List Int} {z : Int} {i : Nat} (h : ixOf row z = some i) : ixN (row ++ e) z = i := by rw [ixN, ixOf_append h]; rfl
theorem ixOf_in {row : List Int} {z : Int} {i : Nat} (h : ixOf row z = some i) : z ∈ row := List.mem_of_getElem? (ixOf_some h)
theorem metR_pre (row : List Int) (r : RefV) : ∃ e, (metR row r).1 = row ++ e := by
  unfold metR
  split
  · split
    · exact ⟨[], by simp⟩
    · exact ⟨_, rfl⟩
  · exact ⟨[], by simp⟩
theorem metF_pre : ∀ (l : List RefV) (row : List Int), ∃ e, (metF row l).1 = row ++ e
  | [], row => ⟨[], by simp [metF]⟩
  | x :: l, row => by
    obtain ⟨e, he⟩ := metR_pre row x
    obtain ⟨f, hf⟩ := metF_pre l (metR row x).1
    exact ⟨e ++ f, by show (metF (metR row x).1 l).1 = _; rw [hf, he, List.append_assoc]⟩
theorem metR_ix {row e R : List Int} {r : RefV} (h : R = (metR row r).1 ++ e) : (metR row r).2 = renR (ixN R) r ∧ (r.kind = 2 → r.n ∈ R) := by
  unfold renR
  split
  · rename_i hk
    rcases hi : ixOf row r.n with _ | i
    · rw [metR_new hk hi] at h ⊢
      have h1 := ixOf_fresh hi
      subst h
      exact ⟨by show (⟨2, row.length⟩ : RefV) = _; rw [ixN_of h1], fun _ => List.mem_append.2 (.inl (by simp))⟩
    · rw [metR_in hk hi] at h ⊢
      subst h
      exact ⟨by show (⟨2, i⟩ : RefV) = _; rw [ixN_of hi], fun _ => List.mem_append.2 (.inl (ixOf_in hi))⟩
  · rename_i hk
    rw [metR_small hk]
    exact ⟨rfl, fun q => absurd q hk⟩
theorem metF_ix : ∀ {l : List RefV} {row e R : List Int}, R = (metF row l).1 ++ e → (metF row l).2 = l.map (renR (ixN R)) ∧ Seen (fun z => z ∈ R) l
  | [], _, _, _, _ => ⟨rfl, fun r h => by cases h⟩
  | a :: l, row, e, R, h => by
    have h' : R = (metF (metR row a).1 l).1 ++ e := h
    obtain ⟨f, hf⟩ := metF_pre l (metR row a).1
    have h1 := metR_ix (row := row) (r := a) (R := R) (e := f ++ e) (by rw [h', hf, List.append_assoc])
    have h2 := metF_ix h'
    refine ⟨?_, fun r hr hk => ?_⟩
    · rw [metF, List.map_cons, h1.1, h2.1]
    · rcases List.mem_cons.1 hr with q | q
      · subst q; exact h1.2 hk
      · exact h2.2 r q hk
theorem canonS_pre {g : Graph} : ∀ (f : Nat) (row : List Int) (out : List Thing), ∃ e, (canonS g f row out).1 = row ++ e
  | 0, row, _ => ⟨[], by simp [canonS]⟩
  | f + 1, row, out => by
    rcases Nat.lt_or_ge out.length row.length with q | q
    · rw [canonS_at q]
      obtain ⟨e1, h1⟩ := metF_pre (at_ g row[out.length]).refs row
      obtain ⟨e2, h2⟩ := canonS_pre f (metF row (at_ g row[out.length]).refs).1 (out ++ [reR (at_ g row[out.length]) (metF row (at_ g row[out.length]).refs).2])
      exact ⟨e1 ++ e2, by rw [h2, h1, List.append_assoc]⟩
    · rw [canonS_end q]; exact ⟨[], by simp⟩
def Good (g : Graph) (R : List Int) (out : List Thing) : Prop := ∀ i, i < out.length → out[i]? = some (ren (ixN R) (at_ g (R.getD i 0))) ∧ Seen (fun z => z ∈ R) (at_ g (R.getD i 0)).refs
theorem canonS_good {g : Graph} {R : List Int} : ∀ (f : Nat) {row : List Int} {out : List Thing}, R = (canonS g f row out).1 → Good g R out → Good g R (canonS g f row out).2
  | 0, _, _, _, h => h
  | f + 1, row, out, hR, h => by
    rcases Nat.lt_or_ge out.length row.length with q | q
    · rw [canonS_at q] at hR ⊢
      obtain ⟨e, he⟩ := canonS_pre (g := g) f (metF row (at_ g row[out.length]).refs).1 (out ++ [reR (at_ g row[out.length]) (metF row (at_ g row[out.length]).refs).2])
      obtain ⟨e2, he2⟩ := metF_pre (at_ g row[out.length]).refs row
      have hx := metF_ix (R := R) (e := e) (by rw [hR, he])
      have hat : R.getD out.length 0 = row[out.length] := by
        rw [hR, he, he2, List.append_assoc, List.getD_eq_getElem?_getD, List.getElem?_append_left q, List.getElem?_eq_getElem q]; rfl
      refine canonS_good f hR fun i hi => ?_
      rw [List.length_append, List.length_singleton] at hi
      rcases Nat.lt_or_ge i out.length with w | w
      · rw [List.getElem?_append_left w]; exact h i w
      · obtain rfl : i = out.length := by omega
        rw [List.getElem?_append_right (Nat.le_refl _), Nat.sub_self, hat]
        refine ⟨?_, hx.2⟩
        rw [hx.1]; rfl
    · rw [canonS_end q]; exact h
/-- What the numbering comes to. -/
structure Canonical (g : Graph) (R : List Int) : Prop where
  nd : RowOk g.things.length R
  len : (canonG g).things.length = R.length
  good : Good g R (canonG g).things
  roots : (canonG g).roots = g.roots.map (renR (ixN R))
  seen : Seen (fun z => z ∈ R) g.roots
theorem canonical {g : Graph} (hc : checkB g = true) : ∃ R, Canonical g R := by
  have h0 := metF_ok (RowOk.nil g.things.length) (check_roots hc)
  have e : canonG g = canonF g := by rw [canonG, if_pos hc]
  refine ⟨(canonS g g.things.length (metF [] g.roots).1 []).1, canonS_row hc _ h0, ?_, ?_, ?_, ?_⟩
  · rw [e]
    have h1 := canonS_done hc g.things.length (row := (metF [] g.roots).1) (out := []) h0 (by simp)
    have h2 := canonS_le (g := g) g.things.length (row := (metF [] g.roots).1) (out := []) (Nat.zero_le _)
    exact Nat.le_antisymm h2 h1
  · rw [e]; exact canonS_good _ rfl fun i hi => absurd hi (Nat.not_lt_zero _)
  · rw [e]
    obtain ⟨f, hf⟩ := canonS_pre (g := g) g.things.length (metF [] g.roots).1 []
    exact (metF_ix hf).1
  · obtain ⟨f, hf⟩ := canonS_pre (g := g) g.things.length (metF [] g.roots).1 []
    exact (metF_ix hf).2
theorem ixOf_mem' {z : Int} {R : List Int} (h : z ∈ R) : ∃ i, ixOf R z = some i ∧ ixN R z = i ∧ i < R.length ∧ R.getD i 0 = z := by
  obtain ⟨i, hi⟩ := ixOf_mem h
  have h1 := ixOf_some hi
  refine ⟨i, hi, by rw [ixN, hi]; rfl, ixOf_lt hi, ?_⟩
  rw [List.getD_eq_getElem?_getD, h1]; rfl
theorem canon_turns {g : Graph} {R : List Int} (h : Canonical g R) : Turns (fun z => z ∈ R) (ixN R) g (canonG g) := by
  refine ⟨fun z y hz hy e => ?_, fun z hz => ?_, fun z hz => ?_⟩
  · obtain ⟨i, _, h1, _, h2⟩ := ixOf_mem' hz
    obtain ⟨j, _, h3, _, h4⟩ := ixOf_mem' hy
    rw [h1, h3] at e
    obtain rfl : i = j := by omega
    rw [← h2, h4]
  · obtain ⟨i, _, h1, h2, h3⟩ := ixOf_mem' hz
    have hg := (h.good i (by rw [h.len]; exact h2)).1
    rw [h3] at hg
    show (canonG g).things.getD (ixN R z).toNat default = _
    rw [h1, Int.toNat_natCast, List.getD_eq_getElem?_getD, hg]; rfl
  · obtain ⟨i, _, h1, h2, h3⟩ := ixOf_mem' hz
    have hg := (h.good i (by rw [h.len]; exact h2)).2
    rw [h3] at hg
    exact hg
theorem ren_fits {R : List Int} {n m : Nat} (hm : R.length ≤ m) {r : RefV} (h : fitsF r n = true) (hs : r.kind = 2 → r.n ∈ R) : fitsF (renR (ixN R) r) m = true := by
  unfold renR
  split
  · rename_i hk
    obtain ⟨i, _, h1, h2, _⟩ := ixOf_mem' (hs hk)
    show (if (2 : Int) = 1 then _ else if (2 : Int) = 2 then decide (0 ≤ ixN R r.n) && decide (ixN R r.n < (m : Int)) else false) = true
    rw [if_neg (by decide), if_pos rfl, Bool.and_eq_true]
    exact ⟨decide_eq_true (by omega), decide_eq_true (by omega)⟩
  · rename_i hk
    unfold fitsF at h ⊢
    split at h
    · rename_i h1; rw [if_pos h1]; exact h
    · cases h
theorem canon_check {g : Graph} (hc : checkB g = true) : checkB (canonG g) = true := by
  obtain ⟨R, h⟩ := canonical hc
  refine check_mk (fun r hr => ?_) (fun t ht => ?_)
  · rw [h.roots] at hr
    obtain ⟨q, hq, rfl⟩ := List.mem_map.1 hr
    exact ren_fits (by rw [h.len]; exact Nat.le_refl _) (check_roots hc q hq) (h.seen q hq)
  · obtain ⟨i, hi, rfl⟩ := List.getElem_of_mem ht
    have hg := h.good i hi
    rw [List.getElem?_eq_getElem hi, Option.some.injEq] at hg
    rw [hg.1]
    have hz : R.getD i 0 ∈ R := by
      have hi' : i < R.length := by rw [← h.len]; exact hi
      have e : R.getD i 0 = R[i] := by simp [hi']
      rw [e]; exact List.getElem_mem hi'
    have hv := h.nd.lo _ hz
    have hm := check_thing hc _ (at_mem hv.1 hv.2)
    refine ⟨(made_ren _ _).trans hm.1, fun r hr => ?_⟩
    obtain ⟨q, hq, rfl⟩ := List.mem_map.1 hr
    exact ren_fits (by rw [h.len]; exact Nat.le_refl _) (hm.2 q hq) (hg.2 q hq)
theorem canon_again {g : Graph} (hc : checkB g = true) : canonG (canonG g) = canonG g := by
  obtain ⟨R, h⟩ := canonical hc
  have ht := canon_turns h
  have h0 := metF_ok (RowOk.nil g.things.length) (check_roots hc)
  have h1 := metF_map ht.inj (row := []) (l := g.roots) (fun y hy => by cases hy) h.seen
  rw [List.map_nil, ← h.roots] at h1
  have e : canonG g = canonF g := by rw [canonG, if_pos hc]
  have hsub : ∀ y ∈ (metF [] g.roots).1, y ∈ R := metF_sub (V := fun z => z ∈ R) (fun y hy => by cases hy) h.seen
  have h2 : (canonG g).things.length ≤ g.things.length := by rw [h.len]; exact h.nd.len
  have h3 : (canonS g g.things.length (metF [] g.roots).1 []).2.length = (canonG g).things.length := by rw [e]; rfl
  have h4 := canonS_enough (g := g) (canonG g).things.length g.things.length (row := (metF [] g.roots).1) (out := []) h2 (by rw [h3]; simp)
  have h5 : canonG (canonG g) = canonF (canonG g) := by rw [canonG, if_pos (canon_check hc)]
  rw [h5, canonF, h1]
  simp only
  rw [canonS_map ht _ hsub, h4]
  rw [e]; rfl
theorem canon_same {g : Graph} (hc : checkB g = true) : sameF g (canonG g) = true := same_of hc (canon_check hc) (canon_again hc).symm
end Go.Proofs.Ytbndnmmceccbkaa
