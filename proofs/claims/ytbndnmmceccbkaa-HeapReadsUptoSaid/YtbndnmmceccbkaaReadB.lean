/-
  READING: what the code's branches come to; ranges of what is read.
-/
import Derived.Test.YtbndnmmceccbkaaRead
namespace Go.Proofs.Ytbndnmmceccbkaa
open Go Go.RowKit
set_option linter.unusedSectionVars false
theorem span_range (k n : Int) (h : 0 ≤ n) : 8 ≤ spanF k n ∧ spanF k n ≤ 16 + 8 * n ∧ 8 + n ≤ spanF k n := by
  unfold spanF; split <;> omega
theorem span_bytes {k : Int} (n : Int) (h : bytesK k = true) : spanF k n = 8 + (n + 7) / 8 * 8 := by unfold spanF; rw [if_pos h]
theorem span_other {k : Int} (n : Int) (h : bytesK k = false) : spanF k n = 8 + 8 * n := by unfold spanF; rw [h, if_neg (by decide)]
theorem bytesK_8 : bytesK 8 = false := rfl
theorem code_range (z : Int) : 0 ≤ IntKind.u64.wrap z ∧ IntKind.u64.wrap z ≤ 18446744073709551615 := by rw [IntKind.wrap_u64]; omega
section
variable {b : List UInt8} {o n : Nat} {h : Int} {row : List Int}
theorem body_bytes (hn : h / 16777216 = n) (hk : bytesK (h / 2 % 16) = true) (hz : (zsOf b o n (h / 2 % 16)).any (fun z => !decide (z = 0)) = false) :
    body b o h row = some (row, ⟨h / 2 % 16, h / 256 % 65536, (b.drop (o + 8)).take n, []⟩) := by
  unfold body; simp only [hn, Int.toNat_natCast]; rw [if_pos hk, hz, if_neg (by decide)]
theorem body_zs (hn : h / 16777216 = n) (hk : bytesK (h / 2 % 16) = true) (hz : (zsOf b o n (h / 2 % 16)).any (fun z => !decide (z = 0)) = true) : body b o h row = none := by
  unfold body; simp only [hn, Int.toNat_natCast]; rw [if_pos hk, hz, if_pos rfl]
theorem body_c1 (hn : h / 16777216 = n) (hk : bytesK (h / 2 % 16) = false) (h8 : h / 2 % 16 = 8) (hz : (n : Int) = 0 ∨ ¬ h / 256 % 65536 = 0) : body b o h row = none := by
  unfold body; simp only [hn, Int.toNat_natCast]; rw [hk, if_neg (by decide), if_pos h8, if_pos (by omega)]
theorem body_c2 (hn : h / 16777216 = n) (hk : bytesK (h / 2 % 16) = false) (h8 : h / 2 % 16 = 8) (hz : ¬ (n : Int) = 0 ∧ h / 256 % 65536 = 0)
    (hc : ¬ IntKind.u64.wrap (wordAt b (o + 8) - 4194304) % 16 = 0 ∨ 4194303 < IntKind.u64.wrap (wordAt b (o + 8) - 4194304) / 16) : body b o h row = none := by
  unfold body; simp only [hn, Int.toNat_natCast]; rw [hk, if_neg (by decide), if_pos h8, if_neg (by omega), if_pos hc]
theorem body_clo (hn : h / 16777216 = n) (hk : bytesK (h / 2 % 16) = false) (h8 : h / 2 % 16 = 8) (hz : ¬ (n : Int) = 0 ∧ h / 256 % 65536 = 0)
    (hc : IntKind.u64.wrap (wordAt b (o + 8) - 4194304) % 16 = 0 ∧ ¬ 4194303 < IntKind.u64.wrap (wordAt b (o + 8) - 4194304) / 16) :
    body b o h row = some ((valsF row (wordsAt b (o + 16) (n - 1))).1, ⟨h / 2 % 16, IntKind.u64.wrap (wordAt b (o + 8) - 4194304) / 16, [], (valsF row (wordsAt b (o + 16) (n - 1))).2⟩) := by
  unfold body; simp only [hn, Int.toNat_natCast]
  rw [hk, if_neg (by decide), if_pos h8, if_neg (by omega), if_neg (by omega), h8]
theorem body_other (hn : h / 16777216 = n) (hk : bytesK (h / 2 % 16) = false) (h8 : ¬ h / 2 % 16 = 8) :
    body b o h row = some ((valsF row (wordsAt b (o + 8) n)).1, ⟨h / 2 % 16, h / 256 % 65536, [], (valsF row (wordsAt b (o + 8) n)).2⟩) := by
  unfold body; simp only [hn, Int.toNat_natCast]; rw [hk, if_neg (by decide), if_neg h8]
end
theorem any_step (zs : List UInt8) (i : Nat) (h : i < zs.length) : (zs.take (i + 1)).any (fun z => !decide (z = 0)) = ((zs.take i).any (fun z => !decide (z = 0)) || !decide (((zs.getD i 0).toNat : Int) = 0)) := by
  have e : zs.take (i + 1) = zs.take i ++ [zs.getD i 0] := by rw [List.take_add_one, List.getElem?_eq_getElem h, getD_eq h]; rfl
  have e2 : decide (zs.getD i 0 = 0) = decide (((zs.getD i 0).toNat : Int) = 0) := by
    apply decide_eq_decide.2
    constructor
    · intro q; rw [q]; rfl
    · intro q; exact UInt8.toNat_inj.1 (by show (zs.getD i 0).toNat = 0; omega)
  rw [e, List.any_append, ← e2]; simp
/-! ### ranges -/
theorem small_ok (x : Int) : -9223372036854775808 ≤ smallOf x ∧ smallOf x ≤ 9223372036854775807 := by
  unfold smallOf
  rw [IntKind.wrap_i64]; omega
theorem valR_refOk {row : List Int} {x : Int} (hr : row.length ≤ 1099511627776) : RefOk (valR row x).2 := by
  have hs := small_ok x
  have h2 : (-9223372036854775808 : Int) ≤ 2 ∧ (2 : Int) ≤ 9223372036854775807 := by omega
  unfold valR
  split
  · exact ⟨by show (-9223372036854775808 : Int) ≤ 1; omega, by show (1 : Int) ≤ 9223372036854775807; omega, hs.1, hs.2⟩
  · split
    · rename_i i hi
      have := ixOf_lt hi
      exact ⟨h2.1, h2.2, by show (-9223372036854775808 : Int) ≤ (i : Int); omega, by show (i : Int) ≤ 9223372036854775807; omega⟩
    · exact ⟨h2.1, h2.2, by show (-9223372036854775808 : Int) ≤ (row.length : Int); omega, by show (row.length : Int) ≤ 9223372036854775807; omega⟩
theorem valsF_refOk : ∀ {l row : List Int}, (valsF row l).1.length ≤ 1099511627776 → ∀ r ∈ (valsF row l).2, RefOk r
  | [], _, _ => fun r h => by cases h
  | a :: l, row, hr => by
    intro r hm
    have h1 := valR_row0 row a
    have h2 := valsF_row0 l (valR row a).1
    have h3 : (valsF row (a :: l)).1 = (valsF (valR row a).1 l).1 := rfl
    rw [h3] at hr
    rcases List.mem_cons.1 hm with e | e
    · subst e; exact valR_refOk (by omega)
    · exact valsF_refOk hr r e
theorem body_ok {b : List UInt8} {ws row : List Int} {o : Nat} {h : Int} {p : List Int × Thing} (hb : b.length ≤ 1099511627) (hws : ws.length ≤ 1099511627) (h0 : 0 ≤ h) (h1 : h ≤ 18446744073709551615) (h8 : o % 8 = 0) (ho : o + 8 ≤ b.length) (hrr : RowR b ws row)
    (hq : bad1 h (b.length - o) = false) (hp : body b o h row = some p) : RowR b ws p.1 ∧ ThingOk 1099511627 p.2 := by
  obtain ⟨n, hn⟩ : ∃ n : Nat, h / 16777216 = n := ⟨(h / 16777216).toNat, by omega⟩
  have hsr := span_range (h / 2 % 16) n (by omega)
  simp only [bad1, Bool.or_eq_false_iff, decide_eq_false_iff_not, hn] at hq
  have hsp : spanF (h / 2 % 16) n ≤ b.length - o := by omega
  have hlen := fun (row' : List Int) (hr : RowR b ws row') => hr.len
  by_cases hk : bytesK (h / 2 % 16) = true
  · rcases hz : (zsOf b o n (h / 2 % 16)).any (fun z => !decide (z = 0)) with _ | _
    · rw [body_bytes hn hk hz] at hp
      cases hp
      refine ⟨hrr, ⟨by show (-9223372036854775808 : Int) ≤ h / 2 % 16; omega, by show h / 2 % 16 ≤ (9223372036854775807 : Int); omega, by show (-9223372036854775808 : Int) ≤ h / 256 % 65536; omega, by show h / 256 % 65536 ≤ (9223372036854775807 : Int); omega, ?_, Nat.zero_le _, fun r hr => by cases hr⟩⟩
      show ((b.drop (o + 8)).take n).length ≤ 1099511627
      rw [List.length_take, List.length_drop]; omega
    · rw [body_zs hn hk hz] at hp; cases hp
  · have hk : bytesK (h / 2 % 16) = false := by simpa using hk
    rw [span_other _ hk] at hsp
    by_cases h8' : h / 2 % 16 = 8
    · by_cases hz : (n : Int) = 0 ∨ ¬ h / 256 % 65536 = 0
      · rw [body_c1 hn hk h8' hz] at hp; cases hp
      have hz : ¬ (n : Int) = 0 ∧ h / 256 % 65536 = 0 := by omega
      by_cases hc : ¬ IntKind.u64.wrap (wordAt b (o + 8) - 4194304) % 16 = 0 ∨ 4194303 < IntKind.u64.wrap (wordAt b (o + 8) - 4194304) / 16
      · rw [body_c2 hn hk h8' hz hc] at hp; cases hp
      have hc : IntKind.u64.wrap (wordAt b (o + 8) - 4194304) % 16 = 0 ∧ ¬ 4194303 < IntKind.u64.wrap (wordAt b (o + 8) - 4194304) / 16 := by omega
      rw [body_clo hn hk h8' hz hc] at hp
      have hcr := code_range (wordAt b (o + 8) - 4194304)
      have hrow := valsF_ok hrr (src_words (b := b) (ws := ws) (o := o + 16) (n := n - 1) (by omega) (by omega))
      have hl := hrow.len
      cases hp
      refine ⟨hrow, ⟨by show (-9223372036854775808 : Int) ≤ h / 2 % 16; omega, by show h / 2 % 16 ≤ (9223372036854775807 : Int); omega, by show (-9223372036854775808 : Int) ≤ IntKind.u64.wrap (wordAt b (o + 8) - 4194304) / 16; omega, by show IntKind.u64.wrap (wordAt b (o + 8) - 4194304) / 16 ≤ (9223372036854775807 : Int); omega, Nat.zero_le _, ?_, valsF_refOk (by omega)⟩⟩
      show (valsF row (wordsAt b (o + 16) (n - 1))).2.length ≤ 1099511627
      rw [valsF_len, wordsAt_len]; omega
    · rw [body_other hn hk h8'] at hp
      have hrow := valsF_ok hrr (src_words (b := b) (ws := ws) (o := o + 8) (n := n) (by omega) (by omega))
      have hl := hrow.len
      cases hp
      refine ⟨hrow, ⟨by show (-9223372036854775808 : Int) ≤ h / 2 % 16; omega, by show h / 2 % 16 ≤ (9223372036854775807 : Int); omega, by show (-9223372036854775808 : Int) ≤ h / 256 % 65536; omega, by show h / 256 % 65536 ≤ (9223372036854775807 : Int); omega, Nat.zero_le _, ?_, valsF_refOk (by omega)⟩⟩
      show (valsF row (wordsAt b (o + 8) n)).2.length ≤ 1099511627
      rw [valsF_len, wordsAt_len]; omega
theorem bad0_fine {b : List UInt8} {a x : Int} (h : bad0 b a x = false) (ha : a % 8 = 0) : x % 8 = 0 ∧ a ≤ x ∧ (x - a).toNat % 8 = 0 ∧ (x - a).toNat + 8 ≤ b.length := by
  simp only [bad0, Bool.or_eq_false_iff, Bool.not_eq_false', decide_eq_true_eq, decide_eq_false_iff_not] at h
  omega
theorem thingR_ok {b : List UInt8} {a x : Int} {ws row : List Int} {p : List Int × Thing} (hb : b.length ≤ 1099511627) (hws : ws.length ≤ 1099511627) (ha : a % 8 = 0) (hrr : RowR b ws row) (hp : thingR b a row x = some p) :
    RowR b ws p.1 ∧ ThingOk 1099511627 p.2 ∧ bad0 b a x = false ∧ madeF p.2 = true := by
  unfold thingR at hp
  split at hp
  · cases hp
  rename_i h0
  have h0 : bad0 b a x = false := by simpa using h0
  split at hp
  · cases hp
  rename_i h1
  have h1 : bad1 (wordAt b (x - a).toNat) (b.length - (x - a)) = false := by simpa using h1
  have hf := bad0_fine h0 ha
  have hwr := wordAt_range b (x - a).toNat
  split at hp
  · cases hp
  · rename_i q hq
    split at hp
    · rename_i hm
      cases hp
      have hd : (x - a) = ((x - a).toNat : Int) := by omega
      rw [hd, Int.toNat_natCast] at h1
      have := body_ok hb hws hwr.1 hwr.2 hf.2.2.1 hf.2.2.2 hrr h1 hq
      exact ⟨this.1, this.2, h0, hm⟩
    · cases hp
end Go.Proofs.Ytbndnmmceccbkaa
