/-
  LAID AND READ AGAIN: the words of a graph's bytes reach the graph, numbered by breadth.
-/
import Derived.Test.YtbndnmmceccbkaaAgain
import Derived.Test.YtbndnmmceccbkaaReadC
namespace Go.Proofs.Ytbndnmmceccbkaa
open Go Go.RowKit
set_option linter.unusedSectionVars false
theorem leNum_leBytes : ∀ (k : Nat) (x : Int), 0 ≤ x → x < 256 ^ k → leNum (leBytes k x) = x
  | 0, x, h0, h1 => by simp only [Int.pow_zero] at h1; simp only [leBytes, leNum]; omega
  | k + 1, x, h0, h1 => by
    have h2 : x / 256 < 256 ^ k := by
      rw [Int.pow_succ] at h1
      exact Int.ediv_lt_of_lt_mul (by decide) h1
    rw [leBytes, leNum, leNum_leBytes k (x / 256) (by omega) h2]
    have h3 : (UInt8.ofNat (x % 256).toNat).toNat = (x % 256).toNat := by
      rw [UInt8.toNat_ofNat']; omega
    rw [h3]; omega
theorem fits_one {r : RefV} {n : Nat} (h : fitsF r n = true) (hk : r.kind = 1) : -4611686018427387904 ≤ r.n ∧ r.n ≤ 4611686018427387903 := by
  unfold fitsF at h
  rw [if_pos hk] at h
  simpa using h
theorem le8 {x : Int} (h0 : 0 ≤ x) (h1 : x ≤ 18446744073709551615) : leNum (leBytes 8 x) = x := leNum_leBytes 8 x h0 (by omega)
theorem placesF_at : ∀ (l : List Thing) (a : Int) (i : Nat), i < l.length → (placesF a l).getD i 0 = a + totalF (l.take i)
  | [], _, _, h => absurd h (Nat.not_lt_zero _)
  | t :: r, a, 0, _ => by simp [placesF, totalF]
  | t :: r, a, i + 1, h => by
    have := placesF_at r (a + sizeF t) i (by simpa using h)
    rw [placesF, List.getD_cons_succ, this, List.take_succ_cons, totalF]; omega
theorem total_mono (l : List Thing) {i j : Nat} (h : i ≤ j) : totalF (l.take i) ≤ totalF (l.take j) := by
  have := total_le (l.take j) i
  rwa [List.take_take, Nat.min_eq_left h] at this
theorem and_192 {h : Int} (h0 : 0 ≤ h) (h1 : h ≤ 18446744073709551615) (h2 : h / 64 % 4 = 0) : bitsOf .and .u64 h 192 = 0 := by
  obtain ⟨p, rfl⟩ := Int.eq_ofNat_of_zero_le h0
  have e : p &&& 192 = 0 := by
    have h3 : (p &&& 192) % 256 = (p % 256) &&& 192 := by
      rw [show (256 : Nat) = 2 ^ 8 from rfl, Nat.and_mod_two_pow]
    have h4 : p &&& 192 ≤ 192 := Nat.and_le_right
    have h5 : ∀ r : Nat, r < 256 → r / 64 % 4 = 0 → r &&& 192 = 0 := by decide +kernel
    have h6 := h5 (p % 256) (Nat.mod_lt _ (by decide)) (by omega)
    omega
  have h7 : bitsOf .and .u64 (p : Int) ((192 : Nat) : Int) = ((p &&& 192 : Nat) : Int) := by
    simp only [bitsOf, BitVec.toNat_and, ofInt_nat]
    rw [Nat.mod_eq_of_lt (show p < 2 ^ IntKind.u64.bits by show p < 18446744073709551616; omega), Nat.mod_eq_of_lt (show 192 < 2 ^ IntKind.u64.bits by decide)]
    rw [e]; rfl
  rw [show (192 : Int) = ((192 : Nat) : Int) from rfl, h7, e]; rfl
/-! ### what the header says -/
theorem head_facts {t : Thing} (hm : madeF t = true) (hl : longF t ≤ 1099511627775) : (headF t) % 2 = 1 ∧ headF t / 2 % 16 = t.kind ∧ headF t / 256 % 65536 = (if t.kind = 8 then 0 else t.tag) ∧ headF t / 16777216 = longF t ∧ 0 ≤ headF t ∧ headF t ≤ 18446744073709551615 ∧ bitsOf .and .u64 (headF t) 192 = 0 := by
  obtain ⟨q1, q2, q3, q4, q5, q6, q7⟩ := made_spec hm
  have he : headF t = 1 + 2 * t.kind + (if t.kind = 8 then 0 else 256 * t.tag) + 16777216 * longF t := by rw [headF, if_pos hm]
  by_cases h8 : t.kind = 8
  · rw [if_pos h8] at he ⊢
    have hr : 0 ≤ headF t ∧ headF t ≤ 18446744073709551615 := by omega
    exact ⟨by omega, by omega, by omega, by omega, hr.1, hr.2, and_192 hr.1 hr.2 (by omega)⟩
  · rw [if_neg h8] at he ⊢
    have := q5 h8
    have hr : 0 ≤ headF t ∧ headF t ≤ 18446744073709551615 := by omega
    exact ⟨by omega, by omega, by omega, by omega, hr.1, hr.2, and_192 hr.1 hr.2 (by omega)⟩
/-! ### words -/
theorem wordAt_of {b r : List UInt8} {o : Nat} {x : Int} (h : b.drop o = leBytes 8 x ++ r) (h0 : 0 ≤ x) (h1 : x ≤ 18446744073709551615) : wordAt b o = x := by
  rw [wordAt, h, List.take_left' (leBytes_length 8 x), le8 h0 h1]
theorem words_of {b : List UInt8} {pl : List Int} (hp : PlOk pl) : ∀ {l : List RefV} {o : Nat} {r : List UInt8}, b.drop o = wordsB pl l ++ r → ∀ j, j ≤ l.length → wordsAt b o j = wordsF pl (l.take j)
  | l, o, r, h, 0, _ => by simp [wordsAt, wordsF]
  | l, o, r, h, j + 1, hj => by
    rw [wordsAt, words_of hp h j (by omega), wordsF_step (by omega)]
    congr 2
    have e1 : wordsB pl l = wordsB pl (l.take j) ++ (leBytes 8 (wordV pl (l.getD j default)) ++ wordsB pl (l.drop (j + 1))) := by
      have e2 : l = l.take j ++ (l.getD j default :: l.drop (j + 1)) := by
        rw [getD_eq' (show j < l.length by omega), ← List.drop_eq_getElem_cons (show j < l.length by omega), List.take_append_drop]
      conv => lhs; rw [e2]
      simp only [wordsB, List.flatMap_append, List.flatMap_cons]
    have e3 : b.drop (o + 8 * j) = leBytes 8 (wordV pl (l.getD j default)) ++ (wordsB pl (l.drop (j + 1)) ++ r) := by
      rw [← List.drop_drop, h, e1, List.append_assoc, List.drop_left' (by rw [wordsB_len, List.length_take]; omega), List.append_assoc]
    exact wordAt_of e3 (wordV_range hp _).1 (wordV_range hp _).2
/-! ### a laid graph -/
structure Laid (g : Graph) (x : Int) : Prop where
  ck : checkB g = true
  x0 : 0 ≤ x
  x8 : x % 8 = 0
  fin : x + totalF g.things ≤ 9223372036854775808
  long : ∀ t ∈ g.things, longF t ≤ 1099511627775
section
variable {g : Graph} {x : Int} (hL : Laid g x)
include hL
abbrev plOf (g : Graph) (x : Int) : List Int := placesF x g.things
abbrev bOf (g : Graph) (x : Int) : List UInt8 := layB (plOf g x) g.things
abbrev placeOf (g : Graph) (x : Int) (z : Int) : Int := (plOf g x).getD z.toNat 0
omit hL in
abbrev Val (g : Graph) (z : Int) : Prop := 0 ≤ z ∧ z < (g.things.length : Int)
theorem made_all : ∀ t ∈ g.things, madeF t = true := fun t ht => (check_thing hL.ck t ht).1
theorem pl_ok : PlOk (plOf g x) := places_ok hL.x0 hL.fin
theorem b_len : ((bOf g x).length : Int) = totalF g.things := layB_len (made_all hL)
omit hL in
theorem place_val {z : Int} (hz : Val g z) : placeOf g x z = x + totalF (g.things.take z.toNat) := placesF_at _ _ _ (by omega)
theorem take_mod (i : Nat) : totalF (g.things.take i) % 8 = 0 := total_mod fun t ht => made_all hL t (List.mem_of_mem_take ht)
theorem at_step {i : Nat} (hi : i < g.things.length) : totalF (g.things.take i) + 8 ≤ totalF (g.things.take (i + 1)) := by
  rw [total_step hi]
  have := (size_made (made_all hL _ (getD_mem' hi))).1
  omega
theorem place_inj : Inj (Val g) (placeOf g x) := fun z y hz hy e => by
  rw [place_val hz, place_val hy] at e
  have key : ∀ i j : Nat, i < j → j < g.things.length → totalF (g.things.take i) < totalF (g.things.take j) := fun i j hij hj => by
    have h1 := at_step hL (i := i) (by omega)
    have h2 := total_mono g.things (show i + 1 ≤ j by omega)
    omega
  rcases Nat.lt_trichotomy z.toNat y.toNat with h | h | h
  · have := key _ _ h (by omega); omega
  · omega
  · have := key _ _ h (by omega); omega
/-- Where a thing's bytes stand. -/
theorem b_drop {i : Nat} (hi : i < g.things.length) : ∃ r, (bOf g x).drop (totalF (g.things.take i)).toNat = thingB (plOf g x) (g.things.getD i default) ++ r := by
  refine ⟨layB (plOf g x) (g.things.drop (i + 1)), ?_⟩
  have e : g.things = g.things.take i ++ (g.things.getD i default :: g.things.drop (i + 1)) := by
    rw [getD_eq' hi, ← List.drop_eq_getElem_cons hi, List.take_append_drop]
  have e1 : bOf g x = layB (plOf g x) (g.things.take i) ++ (thingB (plOf g x) (g.things.getD i default) ++ layB (plOf g x) (g.things.drop (i + 1))) := by
    show layB (plOf g x) g.things = _
    have e2 : layB (plOf g x) (g.things.take i ++ (g.things.getD i default :: g.things.drop (i + 1))) = layB (plOf g x) (g.things.take i) ++ (thingB (plOf g x) (g.things.getD i default) ++ layB (plOf g x) (g.things.drop (i + 1))) := by
      simp only [layB, List.flatMap_append, List.flatMap_cons]
    rw [← e2, ← e]
  have h1 := layB_len (pl := plOf g x) (l := g.things.take i) fun t ht => made_all hL t (List.mem_of_mem_take ht)
  rw [e1, List.drop_left' (by omega)]
/-! ### values -/
theorem small_of {n : Int} (h0 : -4611686018427387904 ≤ n) (h1 : n ≤ 4611686018427387903) : smallOf ((2 * n + 1) % 18446744073709551616) = n := by
  unfold smallOf
  rw [IntKind.wrap_i64]
  omega
theorem valR_of {row : List Int} {r : RefV} (hr : fitsF r g.things.length = true) (hrow : ∀ y ∈ row, Val g y) : valR (row.map (placeOf g x)) (wordV (plOf g x) r) = ((metR row r).1.map (placeOf g x), (metR row r).2) := by
  by_cases h1 : r.kind = 1
  · have hr := fits_one hr h1
    have e : metR row r = (row, r) := metR_small (by omega)
    rw [wordV_small h1, valR_odd (by omega), small_of hL hr.1 hr.2, e]
    cases r; simp only at h1; subst h1; rfl
  · have h2 : r.kind = 2 := by
      unfold fitsF at hr
      rw [if_neg h1] at hr
      split at hr
      · assumption
      · cases hr
    have hv : Val g r.n := fits_two hr h2
    have hw : wordV (plOf g x) r = placeOf g x r.n := wordV_thing h1
    have hpv := place_val (x := x) hv
    have hm8 := take_mod hL r.n.toNat
    have hx8 := hL.x8
    have he : ¬ wordV (plOf g x) r % 2 = 1 := by rw [hw, hpv]; omega
    have hix := ixOf_map (place_inj hL) hv hrow
    rw [← hw] at hix
    rcases hi : ixOf row r.n with _ | i
    · rw [hi] at hix
      rw [valR_new he hix, metR_new h2 hi, List.map_append, List.map_singleton, List.length_map, hw]
    · rw [hi] at hix
      rw [valR_in he hix, metR_in h2 hi]
theorem valsF_of : ∀ {l : List RefV} {row : List Int}, (∀ r ∈ l, fitsF r g.things.length = true) → (∀ y ∈ row, Val g y) → valsF (row.map (placeOf g x)) (wordsF (plOf g x) l) = ((metF row l).1.map (placeOf g x), (metF row l).2)
  | [], _, _, _ => rfl
  | r :: l, row, hl, hrow => by
    show valsF (row.map (placeOf g x)) (wordV (plOf g x) r :: wordsF (plOf g x) l) = _
    rw [valsF, valR_of hL (hl r (by simp)) hrow]
    simp only
    rw [valsF_of (fun q hq => hl q (by simp [hq])) (metR_sub hrow (fun hk => fits_two (hl r (by simp)) hk)), metF]
/-! ### one thing -/
theorem body_of {z : Int} (hz : Val g z) {row : List Int} (hrow : ∀ y ∈ row, Val g y) {o : Nat} (ho : (o : Int) = totalF (g.things.take z.toNat)) :
    body (bOf g x) o (headF (at_ g z)) (row.map (placeOf g x)) = some ((metF row (at_ g z).refs).1.map (placeOf g x), reR (at_ g z) (metF row (at_ g z).refs).2) ∧ wordAt (bOf g x) o = headF (at_ g z) ∧
      ((o : Int) + spanF (at_ g z).kind (longF (at_ g z)) ≤ (bOf g x).length) := by
  have hm := at_mem hz.1 hz.2
  have hmade := made_all hL _ hm
  have hfit := (check_thing hL.ck _ hm).2
  obtain ⟨f1, f2, f3, f4, f5, f6, f7⟩ := head_facts hmade (hL.long _ hm)
  obtain ⟨r, hd⟩ := b_drop hL (i := z.toNat) (by omega)
  have hd : (bOf g x).drop o = thingB (plOf g x) (at_ g z) ++ r := by rw [show o = (totalF (g.things.take z.toNat)).toNat by omega]; exact hd
  obtain ⟨q1, q2, q3, q4, q5, q6, q7⟩ := made_spec hmade
  have hbl := b_len hL
  have hsz : spanF (at_ g z).kind (longF (at_ g z)) = sizeF (at_ g z) := by rw [sizeF, if_pos hmade]
  have hend : totalF (g.things.take z.toNat) + sizeF (at_ g z) ≤ totalF g.things := by
    have h1 := total_step (l := g.things) (j := z.toNat) (by omega)
    have h2 := total_le g.things (z.toNat + 1)
    rw [h1] at h2; exact h2
  have hhead : wordAt (bOf g x) o = headF (at_ g z) := by
    refine wordAt_of (r := (at_ g z).bytes ++ zerosB (at_ g z).bytes.length ++ codeB (at_ g z) ++ wordsB (plOf g x) (at_ g z).refs ++ r) ?_ f5 f6
    rw [hd, thingB, headB]; simp only [List.append_assoc]
  have hd8 : (bOf g x).drop (o + 8) = (at_ g z).bytes ++ zerosB (at_ g z).bytes.length ++ (codeB (at_ g z) ++ (wordsB (plOf g x) (at_ g z).refs ++ r)) := by
    rw [← List.drop_drop, hd, thingB, headB]
    simp only [List.append_assoc]
    rw [List.drop_left' (leBytes_length 8 _)]
  refine ⟨?_, hhead, by omega⟩
  generalize htt : at_ g z = t at *
  by_cases hk : bytesK t.kind = true
  · have hn : headF t / 16777216 = (t.bytes.length : Int) := by rw [f4, longF, if_pos hk]
    have hz0 : (zsOf (bOf g x) o t.bytes.length (headF t / 2 % 16)).any (fun z => !decide (z = 0)) = false := by
      rw [f2, zsOf, span_bytes _ hk, show o + 8 + t.bytes.length = o + 8 + t.bytes.length from rfl, ← List.drop_drop, hd8, List.append_assoc, List.drop_left' rfl,
        List.take_left' (by rw [zerosB, List.length_replicate]; omega), zerosB, List.any_replicate]
      simp
    rw [body_bytes hn (by rw [f2]; exact hk) hz0, f2, f3, if_neg (bytesK_not8 hk), hd8, List.append_assoc, List.take_left' rfl, q6 hk]
    rfl
  · have hk : bytesK t.kind = false := by simpa using hk
    have hb0 := q7 hk
    have hd8' : (bOf g x).drop (o + 8) = codeB t ++ (wordsB (plOf g x) t.refs ++ r) := by rw [hd8, hb0]; rfl
    by_cases h8 : t.kind = 8
    · have hn : headF t / 16777216 = ((t.refs.length + 1 : Nat) : Int) := by rw [f4, longF, hk, if_neg (by decide), if_pos h8]
      have hcode : codeB t = leBytes 8 (4194304 + 16 * t.tag) := by rw [codeB, if_pos h8]
      have hw : wordAt (bOf g x) (o + 8) = 4194304 + 16 * t.tag := wordAt_of (by rw [hd8', hcode]) (by omega) (by omega)
      have hc : IntKind.u64.wrap (wordAt (bOf g x) (o + 8) - 4194304) = 16 * t.tag := by rw [hw, IntKind.wrap_u64]; omega
      have hd16 : (bOf g x).drop (o + 16) = wordsB (plOf g x) t.refs ++ r := by
        rw [show o + 16 = (o + 8) + 8 by omega, ← List.drop_drop, hd8', hcode, List.drop_left' (leBytes_length 8 _)]
      have hws : wordsAt (bOf g x) (o + 16) (t.refs.length + 1 - 1) = wordsF (plOf g x) t.refs := by
        rw [Nat.add_sub_cancel, words_of (pl_ok hL) hd16 _ (Nat.le_refl _), List.take_length]
      rw [body_clo hn (by rw [f2]; exact hk) (by rw [f2]; exact h8) ⟨by omega, by rw [f3, if_pos h8]⟩ (by rw [hc]; omega), hws, valsF_of hL hfit hrow, f2, hc, show 16 * t.tag / 16 = t.tag by omega]
      show some (_, (⟨t.kind, t.tag, [], _⟩ : Thing)) = some (_, (⟨t.kind, t.tag, t.bytes, _⟩ : Thing))
      rw [hb0]
    · have hn : headF t / 16777216 = ((t.refs.length : Nat) : Int) := by rw [f4, longF, hk, if_neg (by decide), if_neg h8]
      have hcode : codeB t = [] := by rw [codeB, if_neg h8]
      have hd16 : (bOf g x).drop (o + 8) = wordsB (plOf g x) t.refs ++ r := by rw [hd8', hcode]; rfl
      have hws : wordsAt (bOf g x) (o + 8) t.refs.length = wordsF (plOf g x) t.refs := by
        rw [words_of (pl_ok hL) hd16 _ (Nat.le_refl _), List.take_length]
      rw [body_other hn (by rw [f2]; exact hk) (by rw [f2]; exact h8), hws, valsF_of hL hfit hrow, f2, f3, if_neg h8]
      show some (_, (⟨t.kind, t.tag, [], _⟩ : Thing)) = some (_, (⟨t.kind, t.tag, t.bytes, _⟩ : Thing))
      rw [hb0]
theorem thing_of {z : Int} (hz : Val g z) {row : List Int} (hrow : ∀ y ∈ row, Val g y) : thingR (bOf g x) x (row.map (placeOf g x)) (placeOf g x z) = some ((metF row (at_ g z).refs).1.map (placeOf g x), reR (at_ g z) (metF row (at_ g z).refs).2) := by
  have hpv := place_val (x := x) hz
  have hm := at_mem hz.1 hz.2
  have hmade := made_all hL _ hm
  have hn0 := totalF_nonneg (g.things.take z.toNat)
  obtain ⟨o, ho⟩ : ∃ o : Nat, (o : Int) = totalF (g.things.take z.toNat) := ⟨(totalF (g.things.take z.toNat)).toNat, by omega⟩
  obtain ⟨h1, h2, h3⟩ := body_of hL hz hrow ho
  have hbl := b_len hL
  have hsz : spanF (at_ g z).kind (longF (at_ g z)) = sizeF (at_ g z) := by rw [sizeF, if_pos hmade]
  have hs8 := (size_made hmade).1
  have hm8 := take_mod hL z.toNat
  have hx8 := hL.x8
  obtain ⟨f1, f2, f3, f4, f5, f6, f7⟩ := head_facts hmade (hL.long _ hm)
  obtain ⟨q1, q2, _⟩ := made_spec hmade
  have hpo : placeOf g x z - x = (o : Int) := by omega
  have hb0 : bad0 (bOf g x) x (placeOf g x z) = false := by
    simp only [bad0, Bool.or_eq_false_iff, Bool.not_eq_false', decide_eq_true_eq, decide_eq_false_iff_not]
    omega
  have hb1 : bad1 (wordAt (bOf g x) o) ((bOf g x).length - o) = false := by
    rw [h2]
    simp only [bad1, f2, f4, f7, Bool.or_eq_false_iff, Bool.not_eq_false', decide_eq_true_eq, decide_eq_false_iff_not]
    refine ⟨⟨⟨⟨?_, ?_⟩, ?_⟩, ?_⟩, ?_⟩
    · omega
    · trivial
    · omega
    · omega
    · omega
  rw [thingR_some hpo hb0 hb1 (by rw [h2]; exact h1), if_pos]
  rw [made_re _ (metF_len _ _)]
  exact hmade
theorem readS_of : ∀ (f : Nat) {row : List Int} {out : List Thing}, (∀ y ∈ row, Val g y) → (canonS g f row out).1.length ≤ (canonS g f row out).2.length → readS (bOf g x) x f (row.map (placeOf g x)) out = some (canonS g f row out).2
  | 0, row, out, _, h => by
    have h' : row.length ≤ out.length := h
    rw [readS, if_pos (by simpa using h')]; rfl
  | f + 1, row, out, hrow, h => by
    rcases Nat.lt_or_ge out.length row.length with q | q
    · have hz := hrow _ (List.getElem_mem q)
      have e : (row.map (placeOf g x)).getD out.length 0 = placeOf g x row[out.length] := by simp [q]
      rw [readS_step (by simpa using q) (by rw [e]; exact thing_of hL hz hrow)]
      rw [canonS_at q] at h ⊢
      exact readS_of f (metF_sub hrow (seen_valid (check_thing hL.ck _ (at_mem hz.1 hz.2)).2)) h
    · rw [canonS_end q, readS_end (by simpa using q)]
theorem fuel_of : g.things.length ≤ fuelR (bOf g x) := by
  have hbl := b_len hL
  have key : ∀ i : Nat, i ≤ g.things.length → 8 * (i : Int) ≤ totalF (g.things.take i) := by
    intro i
    induction i with
    | zero => intro _; exact totalF_nonneg _
    | succ i ih =>
      intro hi
      have h1 := ih (by omega)
      have h2 := at_step hL (i := i) (by omega)
      omega
  have := key g.things.length (Nat.le_refl _)
  rw [List.take_length] at this
  unfold fuelR; omega
theorem read_lay : readR (bOf g x) x (wordsF (plOf g x) g.roots) = (canonG g, 0) := by
  have hbl := b_len hL
  have hfin := hL.fin
  have hx0 := hL.x0
  have hx8 := hL.x8
  have hn0 := totalF_nonneg g.things
  have hbad : badR (bOf g x) x = false := by
    simp only [badR, Bool.or_eq_false_iff, Bool.not_eq_false', decide_eq_true_eq, decide_eq_false_iff_not]
    omega
  have hv := valsF_of hL (l := g.roots) (row := []) (check_roots hL.ck) (fun y hy => by cases hy)
  rw [List.map_nil] at hv
  have h0 := metF_ok (RowOk.nil g.things.length) (check_roots hL.ck)
  have hs := readS_of hL (fuelR (bOf g x)) (row := (metF [] g.roots).1) (out := []) h0.lo (canonS_done hL.ck _ h0 (by have := fuel_of hL; simpa using this))
  rw [canonS_more hL.ck (fuel_of hL) h0] at hs
  unfold readR
  rw [hbad, if_neg (by decide), hv]
  simp only
  rw [hs, canonG, if_pos hL.ck]
  rfl
end
end Go.Proofs.Ytbndnmmceccbkaa
