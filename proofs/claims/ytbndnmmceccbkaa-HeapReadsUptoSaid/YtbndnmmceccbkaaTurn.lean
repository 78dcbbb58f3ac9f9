/-
  A GRAPH TURNED: its things in another order, with one more that nobody reaches; and what comes out of the numbering, numbered again.
-/
import Derived.Test.YtbndnmmceccbkaaSim
namespace Go.Proofs.Ytbndnmmceccbkaa
open Go Go.RowKit
def movR (n k : Int) (r : RefV) : RefV := if r.kind = 2 then ⟨2, (r.n + (n - k)) % n⟩ else r
def movF (n k : Int) (l : List RefV) : List RefV := l.map (movR n k)
def nobody : Thing := ⟨2, 0, [110, 111, 98, 111, 100, 121], []⟩
def turnT (g : Graph) (k i : Nat) : Thing := let t := g.things.getD ((i + k) % g.things.length) default; ⟨t.kind, t.tag, t.bytes, movF g.things.length k t.refs⟩
def turnL (g : Graph) (k : Nat) : Nat → List Thing
  | 0 => []
  | i + 1 => turnL g k i ++ [turnT g k i]
def turnG (g : Graph) (k : Nat) : Graph := ⟨turnL g k g.things.length ++ [nobody], movF g.things.length k g.roots⟩
theorem turnL_len (g : Graph) (k : Nat) : ∀ i, (turnL g k i).length = i
  | 0 => rfl
  | i + 1 => by rw [turnL, List.length_append, turnL_len g k i]; rfl
theorem turnL_at (g : Graph) (k : Nat) : ∀ (n i : Nat), i < n → (turnL g k n).getD i default = turnT g k i
  | 0, i, h => absurd h (Nat.not_lt_zero _)
  | n + 1, i, h => by
    have hl := turnL_len g k n
    rw [turnL, List.getD_eq_getElem?_getD]
    rcases Nat.lt_or_ge i n with q | q
    · rw [List.getElem?_append_left (by omega), ← List.getD_eq_getElem?_getD, turnL_at g k n i q]
    · obtain rfl : i = n := by omega
      rw [List.getElem?_append_right (by omega), hl, Nat.sub_self]; rfl
theorem turnL_mem (g : Graph) (k : Nat) : ∀ (n : Nat) (t : Thing), t ∈ turnL g k n → ∃ i, i < n ∧ t = turnT g k i
  | 0, t, h => by cases h
  | n + 1, t, h => by
    rcases List.mem_append.1 h with q | q
    · obtain ⟨i, h1, h2⟩ := turnL_mem g k n t q
      exact ⟨i, by omega, h2⟩
    · exact ⟨n, by omega, by simpa using q⟩
theorem made_refs {k t : Int} {b : List UInt8} {l l' : List RefV} (h : l.length = l'.length) : madeF ⟨k, t, b, l⟩ = madeF ⟨k, t, b, l'⟩ := by
  unfold madeF made0 made1 bigF big0
  simp only [h]
theorem made_ren (φ : Int → Int) (t : Thing) : madeF (ren φ t) = madeF t := made_refs (by simp)
theorem made_re (t : Thing) {l : List RefV} (h : l.length = t.refs.length) : madeF (reR t l) = madeF t := made_refs h
theorem movR_eq (n k : Int) : movR n k = renR fun z => (z + (n - k)) % n := rfl
theorem movR_fits {n k : Nat} (hn : 0 < n) {m : Nat} (hm : n ≤ m) {r : RefV} (h : fitsF r n = true) : fitsF (movR n k r) m = true := by
  unfold movR
  split
  · unfold fitsF
    have h1 := Int.emod_nonneg (r.n + ((n : Int) - k)) (show (n : Int) ≠ 0 by omega)
    have h2 := Int.emod_lt_of_pos (r.n + ((n : Int) - k)) (show (0 : Int) < n by omega)
    show (if (2 : Int) = 1 then _ else if (2 : Int) = 2 then decide (0 ≤ (r.n + ((n : Int) - k)) % n) && decide ((r.n + ((n : Int) - k)) % n < (m : Int)) else false) = true
    rw [if_neg (by decide), if_pos rfl, Bool.and_eq_true]
    exact ⟨decide_eq_true h1, decide_eq_true (by omega)⟩
  · rename_i hk
    unfold fitsF at h ⊢
    split at h
    · rename_i h1; rw [if_pos h1]; exact h
    · cases h
theorem turnT_made {g : Graph} (hc : checkB g = true) {k i : Nat} (hn : 0 < g.things.length) : madeF (turnT g k i) = true ∧ ∀ r ∈ (turnT g k i).refs, fitsF r (g.things.length + 1) = true := by
  have hm : g.things.getD ((i + k) % g.things.length) default ∈ g.things := getD_mem' (Nat.mod_lt _ hn)
  have h := check_thing hc _ hm
  refine ⟨(made_refs (l' := (g.things.getD ((i + k) % g.things.length) default).refs) (List.length_map ..)).trans h.1, fun r hr => ?_⟩
  obtain ⟨q, hq, rfl⟩ := List.mem_map.1 hr
  exact movR_fits hn (by omega) (h.2 q hq)
theorem turn_len (g : Graph) (k : Nat) : (turnG g k).things.length = g.things.length + 1 := by
  show (turnL g k g.things.length ++ [nobody]).length = _
  rw [List.length_append, turnL_len]; rfl
theorem check_mk {g : Graph} (h1 : ∀ r ∈ g.roots, fitsF r g.things.length = true) (h2 : ∀ t ∈ g.things, madeF t = true ∧ ∀ r ∈ t.refs, fitsF r g.things.length = true) : checkB g = true := by
  unfold checkB
  rw [Bool.and_eq_true]
  exact ⟨List.all_eq_true.2 h1, List.all_eq_true.2 fun t ht => by rw [Bool.and_eq_true]; exact ⟨(h2 t ht).1, List.all_eq_true.2 (h2 t ht).2⟩⟩
theorem turn_check {g : Graph} (hc : checkB g = true) {k : Nat} (hn : 0 < g.things.length) : checkB (turnG g k) = true := by
  refine check_mk (fun r hr => ?_) (fun t ht => ?_)
  · rw [turn_len]
    obtain ⟨q, hq, rfl⟩ := List.mem_map.1 hr
    exact movR_fits hn (by omega) (check_roots hc q hq)
  · rw [turn_len]
    rcases List.mem_append.1 ht with q | q
    · obtain ⟨i, _, rfl⟩ := turnL_mem g k _ t q
      exact turnT_made hc hn
    · simp only [List.mem_singleton] at q
      subst q
      exact ⟨by decide +kernel, fun r hr => by cases hr⟩
theorem turn_turns {g : Graph} (hc : checkB g = true) {k : Nat} (hk : k < g.things.length) : Turns (fun z => 0 ≤ z ∧ z < (g.things.length : Int)) (fun z => (z + ((g.things.length : Int) - k)) % g.things.length) g (turnG g k) := by
  have hval : ∀ z : Int, 0 ≤ z → z < (g.things.length : Int) → (z + ((g.things.length : Int) - k)) % g.things.length = if z < k then z + g.things.length - k else z - k := by
    intro z h0 h1
    split
    · rw [Int.emod_eq_of_lt (by omega) (by omega)]; omega
    · rw [show z + ((g.things.length : Int) - k) = (z - k) + g.things.length * 1 by omega, Int.add_mul_emod_self_left, Int.emod_eq_of_lt (by omega) (by omega)]
  refine ⟨fun z y hz hy e => ?_, fun z hz => ?_, fun z hz => seen_valid (check_thing hc _ (at_mem hz.1 hz.2)).2⟩
  · rw [hval z hz.1 hz.2, hval y hy.1 hy.2] at e
    split at e <;> split at e <;> omega
  · rw [hval z hz.1 hz.2]
    obtain ⟨i, hi⟩ : ∃ i : Nat, (if z < (k : Int) then z + g.things.length - k else z - k) = i := ⟨(if z < (k : Int) then z + g.things.length - k else z - k).toNat, by split <;> omega⟩
    have hin : i < g.things.length := by split at hi <;> omega
    rw [hi]
    have e : (i + k) % g.things.length = z.toNat := by
      split at hi
      · rw [show i + k = z.toNat + g.things.length by omega, Nat.add_mod_right, Nat.mod_eq_of_lt (by omega)]
      · rw [Nat.mod_eq_of_lt (by omega)]; omega
    show (turnL g k g.things.length ++ [nobody]).getD (i : Int).toNat default = _
    rw [Int.toNat_natCast, List.getD_eq_getElem?_getD, List.getElem?_append_left (by rw [turnL_len]; exact hin), ← List.getD_eq_getElem?_getD, turnL_at g k _ i hin]
    simp only [turnT, e]
    rfl
theorem turn_canon {g : Graph} (hc : checkB g = true) {k : Nat} (hk : k < g.things.length) : canonG (turnG g k) = canonG g :=
  canonG_turn (turn_turns hc hk) hc (turn_check hc (by omega)) rfl (seen_valid (check_roots hc)) (by rw [turn_len]; omega)
theorem same_of {g h : Graph} (hg : checkB g = true) (hh : checkB h = true) (e : canonG g = canonG h) : sameF g h = true := by
  unfold sameF
  rw [check_zero.2 hg, check_zero.2 hh, e]
  simp
theorem turn_same {g : Graph} (hc : checkB g = true) {k : Nat} (hk : k < g.things.length) : sameF g (turnG g k) = true ∧ sameF (turnG g k) g = true ∧ sameF g g = true :=
  ⟨same_of hc (turn_check hc (by omega)) (turn_canon hc hk).symm, same_of (turn_check hc (by omega)) hc (turn_canon hc hk), same_of hc hc rfl⟩
theorem movF_step {n k : Int} {l : List RefV} {j : Nat} (h : j < l.length) : movF n k (l.take (j + 1)) = movF n k (l.take j) ++ [movR n k (l.getD j default)] := by
  rw [List.take_add_one, List.getElem?_eq_getElem h, getD_eq' h, movF, List.map_append]; rfl
def turnA (z : Int) : Int := if z < 0 then -(z + 1) else z
def turnK (z : Int) (n : Nat) : Nat := (turnA z % n).toNat
theorem turnA_range {z : Int} (h0 : -9223372036854775808 ≤ z) (h1 : z ≤ 9223372036854775807) : 0 ≤ turnA z ∧ turnA z ≤ 9223372036854775807 := by unfold turnA; split <;> omega
theorem turnK_eq {z : Int} {n : Nat} (hn : 0 < n) : (turnK z n : Int) = turnA z % n := Int.toNat_of_nonneg (Int.emod_nonneg _ (by omega))
theorem turnK_lt (z : Int) {n : Nat} (hn : 0 < n) : turnK z n < n := by
  have h1 := turnK_eq (z := z) hn
  have h2 := Int.emod_lt_of_pos (turnA z) (show (0 : Int) < n by omega)
  omega
theorem graph_up {b : Nat} (hb : b ≤ 1099511627) {g : Graph} (h : GraphOk b g) : GraphOk 1099511627 g :=
  ⟨Nat.le_trans h.tl hb, Nat.le_trans h.rl hb, fun t ht => let q := h.ts t ht; ⟨q.k0, q.k1, q.g0, q.g1, Nat.le_trans q.by_ hb, Nat.le_trans q.rl hb, q.rs⟩, h.rs⟩
/-! ### bounds -/
theorem movR_ok {n k : Nat} (hn : 0 < n) (hb : n ≤ 1099511627776) {r : RefV} (h : RefOk r) : RefOk (movR n k r) := by
  unfold movR
  split
  · have h1 := Int.emod_nonneg (r.n + ((n : Int) - k)) (show (n : Int) ≠ 0 by omega)
    have h2 := Int.emod_lt_of_pos (r.n + ((n : Int) - k)) (show (0 : Int) < n by omega)
    exact ⟨by show (-9223372036854775808 : Int) ≤ 2; omega, by show (2 : Int) ≤ 9223372036854775807; omega, by show (-9223372036854775808 : Int) ≤ (r.n + ((n : Int) - k)) % n; omega, by show (r.n + ((n : Int) - k)) % n ≤ 9223372036854775807; omega⟩
  · exact h
theorem turn_ok {g : Graph} (hg : GraphOk 1048576 g) (k : Nat) (hn : 0 < g.things.length) : GraphOk 1099511627 (turnG g k) := by
  have h1 := hg.tl
  have h2 := hg.rl
  refine ⟨by rw [turn_len]; omega, by show (movF _ _ g.roots).length ≤ _; rw [movF, List.length_map]; omega, fun t ht => ?_, fun r hr => ?_⟩
  · rcases List.mem_append.1 ht with q | q
    · obtain ⟨i, _, rfl⟩ := turnL_mem g k _ t q
      have h := hg.ts _ (getD_mem' (l := g.things) (j := (i + k) % g.things.length) (Nat.mod_lt _ hn))
      have h3 := h.by_
      have h4 := h.rl
      exact ⟨h.k0, h.k1, h.g0, h.g1, Nat.le_trans h3 (by decide), by show (movF _ _ _).length ≤ _; rw [movF, List.length_map]; omega, fun r hr => by
        obtain ⟨q, hq, rfl⟩ := List.mem_map.1 hr
        exact movR_ok hn (by omega) (h.rs q hq)⟩
    · simp only [List.mem_singleton] at q
      subst q
      exact ⟨by decide, by decide, by decide, by decide, by decide, by decide, fun r hr => by cases hr⟩
  · obtain ⟨q, hq, rfl⟩ := List.mem_map.1 hr
    exact movR_ok hn (by omega) (hg.rs q hq)
end Go.Proofs.Ytbndnmmceccbkaa
