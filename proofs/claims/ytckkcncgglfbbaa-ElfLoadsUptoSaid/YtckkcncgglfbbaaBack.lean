/-
  WHAT IS WRITTEN IS LOADED AGAIN; CUT, IT IS REFUSED.
-/
import Derived.Test.YtckkcncgglfbbaaLaw
namespace Go.Proofs.Ytckkcncgglfbbaa
open Go Go.RowKit
theorem leNum_back : ∀ {k : Nat} {x : Int}, 0 ≤ x → x < 256 ^ k → leNum (leBytes k x) = x
  | 0, x, h0, h1 => by simp at h1; simp [leBytes, leNum]; omega
  | k + 1, x, h0, h1 => by
    rw [Int.pow_succ] at h1
    have h2 : x / 256 < 256 ^ k := Int.ediv_lt_of_lt_mul (by decide) h1
    rw [leBytes, leNum, leNum_back (Int.ediv_nonneg h0 (by decide)) h2]
    have h3 : ((UInt8.ofNat (x % 256).toNat).toNat : Int) = x % 256 := by
      rw [UInt8.toNat_ofNat']
      omega
    rw [h3]
    omega
theorem num_part {bs C : List UInt8} {r n : Nat} (h : (bs.drop r).take n = C) {q k : Nat} (hq : q + k ≤ n) : num bs ((r : Int) + q) k = leNum ((C.drop q).take k) := by
  subst h
  unfold num
  rw [show ((r : Int) + q).toNat = r + q by omega, List.drop_take, List.take_take, List.drop_drop, Nat.min_eq_left (by omega)]
theorem num_cut {bs : List UInt8} {a : Int} {k n : Nat} (h0 : 0 ≤ a) (h : a + k ≤ n) : num (bs.take n) a k = num bs a k := by
  unfold num
  rw [List.drop_take, List.take_take, Nat.min_eq_left (by omega)]
/-! ### the row of a segment -/
structure RowAt (bs : List UInt8) (a : Int) (s : Seg) (p : Int) : Prop where
  kind : num bs a 4 = 1
  may : num bs (a + 4) 4 = s.may
  place : num bs (a + 8) 8 = p
  to : num bs (a + 16) 8 = s.at_
  len : num bs (a + 32) 8 = s.data.length
  size : num bs (a + 40) 8 = s.size
theorem rowAt {bs : List UInt8} {r : Nat} {s : Seg} {p : Int} (h : (bs.drop r).take 56 = rowF s p) (hs : SegOk s) (hm : 1 ≤ s.may ∧ s.may ≤ 7) (hp : 0 ≤ p ∧ p ≤ 18446744073709551615) : RowAt bs r s p := by
  obtain ⟨h1, h2, h3, h4, h5, h6, h7⟩ := hs
  have e0 := num_part h (q := 0) (k := 4) (by omega)
  have e1 := num_part h (q := 4) (k := 4) (by omega)
  have e2 := num_part h (q := 8) (k := 8) (by omega)
  have e3 := num_part h (q := 16) (k := 8) (by omega)
  have e4 := num_part h (q := 32) (k := 8) (by omega)
  have e5 := num_part h (q := 40) (k := 8) (by omega)
  refine ⟨?_, ?_, ?_, ?_, ?_, ?_⟩
  · rw [show (r : Int) = (r : Int) + ((0 : Nat) : Int) by omega, e0, show ((rowF s p).drop 0).take 4 = leBytes 4 1 from rfl]; exact leNum_back (by decide) (by decide)
  · exact e1.trans ((show leNum (((rowF s p).drop 4).take 4) = leNum (leBytes 4 s.may) from rfl).trans (leNum_back (by omega) (by omega)))
  · exact e2.trans ((show leNum (((rowF s p).drop 8).take 8) = leNum (leBytes 8 p) from rfl).trans (leNum_back (by omega) (by omega)))
  · exact e3.trans ((show leNum (((rowF s p).drop 16).take 8) = leNum (leBytes 8 s.at_) from rfl).trans (leNum_back (by omega) (by omega)))
  · exact e4.trans ((show leNum (((rowF s p).drop 32).take 8) = leNum (leBytes 8 s.data.length) from rfl).trans (leNum_back (by omega) (by omega)))
  · exact e5.trans ((show leNum (((rowF s p).drop 40).take 8) = leNum (leBytes 8 s.size) from rfl).trans (leNum_back (by omega) (by omega)))
/-- What dataF adds. -/
theorem dataF_pre : ∀ (l : List Seg) (out : List UInt8), ∃ X, dataF l out = out ++ X
  | [], out => ⟨[], by simp [dataF]⟩
  | s :: r, out => by
    rw [dataF]
    split
    · obtain ⟨X, e⟩ := dataF_pre r (out ++ List.replicate (pad out.length) 0 ++ s.data)
      exact ⟨List.replicate (pad out.length) 0 ++ s.data ++ X, by rw [e]; simp only [List.append_assoc]⟩
    · exact dataF_pre r out
def stepOut (s : Seg) (out : List UInt8) : List UInt8 := if 0 < s.data.length then out ++ List.replicate (pad out.length) 0 ++ s.data else out
theorem stepOut_len (s : Seg) (out : List UInt8) : ((stepOut s out).length : Int) = nextAt s out.length := by
  unfold stepOut nextAt
  split
  · simp only [List.length_append, List.length_replicate, pad]; omega
  · rfl
theorem placeOf_pad (s : Seg) (out : List UInt8) (h : 0 < s.data.length) : placeOf s out.length = ((out.length + pad out.length : Nat) : Int) := by
  unfold placeOf pad
  rw [if_pos h]
  omega
theorem placeOf_mod (s : Seg) (a : Int) : placeOf s a % 4096 = 0 := by
  unfold placeOf
  split <;> omega
theorem data_at {s : Seg} {out Y : List UInt8} (h : 0 < s.data.length) : ((stepOut s out ++ Y).drop (out.length + pad out.length)).take s.data.length = s.data := by
  unfold stepOut
  rw [if_pos h, List.append_assoc, List.drop_left' (by simp), List.take_left' rfl]
theorem seg_back {s : Seg} (h : 1 ≤ s.may ∧ s.may ≤ 7) : s.may % 8 = s.may := by omega
/-- The table's rows and the bytes behind them give the segments. -/
theorem rows_back {F : List UInt8} (hF : F.length ≤ 18446744073709551615) : ∀ (l : List Seg) (out tail : List UInt8) (r : Nat) (Q : List UInt8), F = dataF l out ++ tail → F.drop r = rowsF l out.length ++ Q → (∀ s ∈ l, SegOk s ∧ 1 ≤ s.may ∧ s.may ≤ 7 ∧ s.at_ % 4096 = 0) → loadRows F l.length r = some l
  | [], out, tail, r, Q, _, _, _ => rfl
  | s :: t, out, tail, r, Q, h1, h2, hs => by
    obtain ⟨ho, hm1, hm2, hat⟩ := hs s (List.mem_cons_self ..)
    obtain ⟨X, hX⟩ := dataF_pre t (stepOut s out)
    have h1' : F = stepOut s out ++ (X ++ tail) := by
      rw [h1, dataF, show (if 0 < s.data.length then out ++ List.replicate (pad out.length) 0 ++ s.data else out) = stepOut s out from rfl, hX, List.append_assoc]
    have hlen : (stepOut s out).length ≤ F.length := by rw [h1', List.length_append]; omega
    have hsl := stepOut_len s out
    have hpl : 0 ≤ placeOf s out.length ∧ placeOf s out.length + s.data.length ≤ F.length := by
      unfold placeOf nextAt at *
      split at hsl <;> simp_all <;> omega
    have hrow : (F.drop r).take 56 = rowF s (placeOf s out.length) := by
      rw [h2, rowsF, List.append_assoc, List.take_left' (rowF_len _ _)]
    have hR := rowAt hrow ho ⟨hm1, hm2⟩ ⟨hpl.1, by omega⟩
    have hok : partOk F r = true := by
      unfold partOk
      rw [hR.place, hR.len, hR.to, placeOf_mod, hat]
      simp only [Bool.and_eq_true, decide_eq_true_eq]
      exact ⟨⟨by omega, by omega⟩, trivial⟩
    have hseg : partSeg F r = s := by
      unfold partSeg
      rw [hR.place, hR.len, hR.to, hR.may, hR.size, seg_back ⟨hm1, hm2⟩]
      have hd : ((F.drop (placeOf s out.length).toNat).take (s.data.length : Int).toNat) = s.data := by
        rcases Nat.eq_zero_or_pos s.data.length with h | h
        · rw [List.eq_nil_of_length_eq_zero h]; simp
        · rw [placeOf_pad s out h, h1']
          exact data_at h
      rw [hd]
    rw [List.length_cons, rows_load (by omega) hR.kind hok, Nat.add_sub_cancel, hseg]
    have ih := rows_back hF t (stepOut s out) tail (r + 56) Q (by rw [h1, dataF]; rfl) (by rw [← List.drop_drop, h2, rowsF, List.append_assoc, List.drop_left' (rowF_len _ _), hsl]) (fun q hq => hs q (List.mem_cons_of_mem _ hq))
    rw [show ((r : Int) + 56) = ((r + 56 : Nat) : Int) by omega, ih]
    rfl
/-- Cut where the bytes of some segment are not whole, they don't. -/
theorem rows_cut {F : List UInt8} {n : Nat} (hF : F.length ≤ 18446744073709551615) (hn : n < F.length) : ∀ (l : List Seg) (out : List UInt8) (r : Nat) (Q : List UInt8), F = dataF l out → F.drop r = rowsF l out.length ++ Q → (∀ s ∈ l, SegOk s ∧ 1 ≤ s.may ∧ s.may ≤ 7 ∧ s.at_ % 4096 = 0) → out.length ≤ n → r + 56 * l.length ≤ n → loadRows (F.take n) l.length r = none
  | [], out, r, Q, h1, _, _, hle, _ => by
    rw [dataF] at h1
    subst h1
    omega
  | s :: t, out, r, Q, h1, h2, hs, hle, hr => by
    obtain ⟨ho, hm1, hm2, hat⟩ := hs s (List.mem_cons_self ..)
    rw [List.length_cons] at hr
    obtain ⟨X, hX⟩ := dataF_pre t (stepOut s out)
    have h1' : F = stepOut s out ++ X := by
      rw [h1, dataF, show (if 0 < s.data.length then out ++ List.replicate (pad out.length) 0 ++ s.data else out) = stepOut s out from rfl, hX]
    have hlen : (stepOut s out).length ≤ F.length := by rw [h1', List.length_append]; omega
    have hsl := stepOut_len s out
    have hpl : 0 ≤ placeOf s out.length ∧ placeOf s out.length + s.data.length ≤ F.length := by
      unfold placeOf nextAt at *
      split at hsl <;> simp_all <;> omega
    have hrow : (F.drop r).take 56 = rowF s (placeOf s out.length) := by
      rw [h2, rowsF, List.append_assoc, List.take_left' (rowF_len _ _)]
    have hR := rowAt hrow ho ⟨hm1, hm2⟩ ⟨hpl.1, by omega⟩
    have hk : num (F.take n) r 4 = 1 := (num_cut (by omega) (by omega)).trans hR.kind
    cases hok : partOk (F.take n) r with
    | false => exact rows_bad (by simp) (by rw [hk]; decide) (by rw [hk]; decide) (fun _ => hok)
    | true =>
      have hlt : (F.take n).length = n := by rw [List.length_take]; omega
      have h3 := hok
      unfold partOk at h3
      rw [num_cut (by omega) (by omega), hR.place, num_cut (by omega) (by omega), hR.len, hlt] at h3
      simp only [Bool.and_eq_true, decide_eq_true_eq] at h3
      have hol : (stepOut s out).length ≤ n := by
        unfold nextAt placeOf at *
        split at hsl <;> simp_all <;> omega
      rw [List.length_cons, rows_load (by omega) hk hok, Nat.add_sub_cancel]
      have ih := rows_cut hF hn t (stepOut s out) (r + 56) Q (by rw [h1, dataF]; rfl) (by rw [← List.drop_drop, h2, rowsF, List.append_assoc, List.drop_left' (rowF_len _ _), hsl]) (fun q hq => hs q (List.mem_cons_of_mem _ hq)) hol (by omega)
      rw [show ((r : Int) + 56) = ((r + 56 : Nat) : Int) by omega, ih]
      rfl
theorem rowsF_len : ∀ (l : List Seg) (a : Int), (rowsF l a).length = 56 * l.length
  | [], _ => rfl
  | s :: r, a => by rw [rowsF, List.length_append, rowF_len, rowsF_len r, List.length_cons]; omega
theorem chk_strict : ∀ {e : Int} {l : List Seg} {en : Int} {b : Bool}, chk e true l en b = true → chk e false l en b = true ∧ ∀ s ∈ l, s.at_ % 4096 = 0
  | e, [], en, b, h => ⟨h, fun s hs => by cases hs⟩
  | e, x :: r, en, b, h => by
    rw [chk] at h
    split at h
    · cases h
    · rename_i hb
      obtain ⟨h1, h2⟩ := chk_strict h
      have hb2 := hb
      rw [bad_iff] at hb2
      have hb3 : badB false x en = false := by
        rw [← Bool.not_eq_true, bad_iff]
        rintro (⟨q, _⟩ | q)
        · cases q
        · exact hb2 (.inr q)
      refine ⟨by rw [chk, hb3]; simpa using h1, fun s hs => ?_⟩
      rcases List.mem_cons.1 hs with rfl | hs
      · exact Classical.byContradiction fun q => hb2 (.inl ⟨rfl, q⟩)
      · exact h2 s hs
theorem checked_weak {i : Img} (h : checkedB i true = true) : checkedB i false = true ∧ ∀ s ∈ i.segs, s.at_ % 4096 = 0 := by
  have h1 := chk_strict (checked_chk h)
  refine ⟨?_, h1.2⟩
  simp only [checkedB, Bool.and_eq_true] at h ⊢
  exact ⟨h.1, h1.1⟩
def headF (i : Img) : List UInt8 := hdrF i ++ rowsF i.segs (64 + i.segs.length * 56)
theorem headF_len (i : Img) : (headF i).length = 64 + 56 * i.segs.length := by rw [headF, List.length_append, hdrF_len, rowsF_len]
structure HeadAt (F : List UInt8) (i : Img) : Prop where
  magic : F.take 7 = magic
  kinds : kindsB F = true
  entry : num F 24 8 = i.entry
  table : num F 32 8 = 64
  count : num F 56 2 = i.segs.length
theorem headAt {F : List UInt8} {i : Img} (h : F.take 64 = hdrF i) (hi : ImgOk i) (hn : i.segs.length ≤ 64) : HeadAt F i := by
  obtain ⟨h1, h2, _, _⟩ := hi
  have h' : (F.drop 0).take 64 = hdrF i := h
  have e0 := num_part h' (q := 16) (k := 2) (by omega)
  have e1 := num_part h' (q := 18) (k := 2) (by omega)
  have e2 := num_part h' (q := 20) (k := 4) (by omega)
  have e3 := num_part h' (q := 52) (k := 2) (by omega)
  have e4 := num_part h' (q := 54) (k := 2) (by omega)
  have e5 := num_part h' (q := 24) (k := 8) (by omega)
  have e6 := num_part h' (q := 32) (k := 8) (by omega)
  have e7 := num_part h' (q := 56) (k := 2) (by omega)
  have f0 : num F 16 2 = 2 := e0.trans ((show _ = leNum (leBytes 2 2) from rfl).trans (leNum_back (by decide) (by decide)))
  have f1 : num F 18 2 = 62 := e1.trans ((show _ = leNum (leBytes 2 62) from rfl).trans (leNum_back (by decide) (by decide)))
  have f2 : num F 20 4 = 1 := e2.trans ((show _ = leNum (leBytes 4 1) from rfl).trans (leNum_back (by decide) (by decide)))
  have f3 : num F 52 2 = 64 := e3.trans ((show _ = leNum (leBytes 2 64) from rfl).trans (leNum_back (by decide) (by decide)))
  have f4 : num F 54 2 = 56 := e4.trans ((show _ = leNum (leBytes 2 56) from rfl).trans (leNum_back (by decide) (by decide)))
  refine ⟨?_, by unfold kindsB; rw [f0, f1, f2, f3, f4]; rfl, e5.trans ((show _ = leNum (leBytes 8 i.entry) from rfl).trans (leNum_back h1 (by omega))), e6.trans ((show _ = leNum (leBytes 8 64) from rfl).trans (leNum_back (by decide) (by decide))), e7.trans ((show _ = leNum (leBytes 2 i.segs.length) from rfl).trans (leNum_back (by omega) (by omega)))⟩
  have : F.take 7 = (F.take 64).take 7 := by rw [List.take_take]; rfl
  rw [this, h]
  rfl
theorem seg_all {i : Img} (hi : ImgOk i) (hc : checkedB i true = true) : ∀ s ∈ i.segs, SegOk s ∧ 1 ≤ s.may ∧ s.may ≤ 7 ∧ s.at_ % 4096 = 0 := fun s hs =>
  have h1 := (checked_facts hc).2.2 s hs
  ⟨hi.2.2.2 s hs, h1.1, h1.2.1, (checked_weak hc).2 s hs⟩
theorem load_back {i : Img} (hi : ImgOk i) (hc : checkedB i true = true) (tail : List UInt8) (hF : (writeF i ++ tail).length ≤ 9223372036854775807) : LoadF (writeF i ++ tail) = some i := by
  have hcf := checked_facts hc
  obtain ⟨hn1, hn64, _⟩ := hcf
  obtain ⟨X, hX⟩ := dataF_pre i.segs (headF i)
  have hw : writeF i = headF i ++ X := hX
  have hlen : 64 + 56 * i.segs.length ≤ (writeF i ++ tail).length := by rw [hw, List.length_append, List.length_append, headF_len]; omega
  have ht : (writeF i ++ tail).take 64 = hdrF i := by
    rw [hw, headF, List.append_assoc, List.append_assoc, List.take_left' (hdrF_len i)]
  have hd : (writeF i ++ tail).drop 64 = rowsF i.segs (headF i).length ++ (X ++ tail) := by
    rw [hw, headF, List.append_assoc, List.append_assoc, List.drop_left' (hdrF_len i), show ((hdrF i ++ rowsF i.segs (64 + i.segs.length * 56)).length : Int) = 64 + i.segs.length * 56 by have := headF_len i; unfold headF at this; omega]
  have hH := headAt ht hi hn64
  have hh : hdrB (writeF i ++ tail) = true := by
    unfold hdrB
    rw [hH.magic, hH.kinds]
    simp only [Bool.and_eq_true, decide_eq_true_eq, and_true]
    omega
  have htb : tableOk (writeF i ++ tail) = true := by
    unfold tableOk
    rw [hH.table, hH.count]
    simp only [Bool.and_eq_true, decide_eq_true_eq]
    omega
  have hrows := rows_back (F := writeF i ++ tail) (by omega) i.segs (headF i) tail 64 (X ++ tail) rfl hd (seg_all hi hc)
  have hl : loadF (writeF i ++ tail) = some i := by
    rw [loadF_rows hh htb, hH.count, hH.table, hH.entry]
    rw [show ((i.segs.length : Int)).toNat = i.segs.length from rfl, show (64 : Int) = ((64 : Nat) : Int) from rfl, hrows]
    rfl
  unfold LoadF
  rw [hl]
  simp only [(checked_weak hc).1, if_true]
theorem load_cut {i : Img} (hi : ImgOk i) (hc : checkedB i true = true) {n : Nat} (hF : (writeF i).length ≤ 9223372036854775807) (hn : n < (writeF i).length) : LoadF ((writeF i).take n) = none := by
  have hcf := checked_facts hc
  obtain ⟨hn1, hn64, _⟩ := hcf
  obtain ⟨X, hX⟩ := dataF_pre i.segs (headF i)
  have hw : writeF i = headF i ++ X := hX
  have hlt : ((writeF i).take n).length = n := by rw [List.length_take]; omega
  have hnone : loadF ((writeF i).take n) = none := by
    by_cases h64 : n < 64
    · apply loadF_hdr
      unfold hdrB
      rw [decide_eq_false (by omega)]
      rfl
    · have ht : ((writeF i).take n).take 64 = hdrF i := by
        rw [List.take_take, Nat.min_eq_left (by omega), hw, headF, List.append_assoc, List.take_left' (hdrF_len i)]
      have hd : (writeF i).drop 64 = rowsF i.segs (headF i).length ++ X := by
        rw [hw, headF, List.append_assoc, List.drop_left' (hdrF_len i), show ((hdrF i ++ rowsF i.segs (64 + i.segs.length * 56)).length : Int) = 64 + i.segs.length * 56 by have := headF_len i; unfold headF at this; omega]
      have hH := headAt ht hi hn64
      by_cases htn : n < 64 + 56 * i.segs.length
      · apply loadF_tab
        rw [← Bool.not_eq_true]
        unfold tableOk
        rw [hH.table, hH.count]
        simp only [Bool.and_eq_true, decide_eq_true_eq]
        omega
      · have hh : hdrB ((writeF i).take n) = true := by
          unfold hdrB
          rw [hH.magic, hH.kinds]
          simp only [Bool.and_eq_true, decide_eq_true_eq, and_true]
          omega
        have htb : tableOk ((writeF i).take n) = true := by
          unfold tableOk
          rw [hH.table, hH.count]
          simp only [Bool.and_eq_true, decide_eq_true_eq]
          omega
        have hrows := rows_cut (F := writeF i) (n := n) (by omega) hn i.segs (headF i) 64 X rfl hd (seg_all hi hc) (by rw [headF_len]; omega) (by omega)
        rw [loadF_rows hh htb, hH.count, hH.table]
        rw [show ((i.segs.length : Int)).toNat = i.segs.length from rfl, show (64 : Int) = ((64 : Nat) : Int) from rfl, hrows]
        rfl
  unfold LoadF
  rw [hnone]
theorem WriteF_is {i : Img} (hc : checkedB i true = true) : WriteF i = writeF i := by unfold WriteF; rw [hc]; rfl
theorem writeF_long (i : Img) : 64 ≤ (writeF i).length := by
  obtain ⟨X, hX⟩ := dataF_pre i.segs (headF i)
  have hw : writeF i = headF i ++ X := hX
  rw [hw, List.length_append, headF_len]
  omega
theorem load_cut_n {i : Img} (hi : ImgOk i) (hc : checkedB i true = true) {n : Nat} (hF : (WriteF i).length ≤ 9223372036854775807) (hn : n < (WriteF i).length) : LoadF (((WriteF i).drop 0).take (n - 0)) = none := by
  rw [WriteF_is hc] at *
  exact load_cut hi hc hF hn
theorem zero_ok : ImgOk ⟨0, []⟩ := ⟨by decide, by decide, by decide, fun s hs => by cases hs⟩
theorem zero_img (w : World) (L : List Nat) (u : Value) (h : VRep w L (.agg [.v (.int .u64 0), .v (.slice none 0 0)]) u) : VRep w L (imgT ⟨0, []⟩) u := by
  cases h with
  | agg hl h h1 =>
    refine .agg (by simpa using hl) (fun j t u e1 e2 => ?_) h1
    rcases j with _ | _ | j
    · exact h 0 t u e1 e2
    · simp only [List.getElem?_cons_succ, List.getElem?_cons_zero, Option.some.injEq] at e1
      subst e1
      exact nil_sl (by decide) w L u (h 1 _ u rfl e2)
    · simp at e1
end Go.Proofs.Ytckkcncgglfbbaa
