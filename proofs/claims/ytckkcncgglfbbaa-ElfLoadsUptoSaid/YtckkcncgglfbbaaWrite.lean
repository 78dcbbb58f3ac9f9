/-
  WHAT Write COMPUTES, in plain words.
-/
import Derived.Test.YtckkcncgglfbbaaImg
namespace Go.Proofs.Ytckkcncgglfbbaa
open Go Go.RowKit
def u16t (x : Int) : T := .v (.int .u16 x)
def u64t (x : Int) : T := .v (.int .u64 x)
theorem len_u16 {l : List Int} : (l.map u16t).length = l.length * 1 := by simp
theorem len_u64 {l : List Int} : (l.map u64t).length = l.length * 1 := by simp
theorem u16_get {l : List Int} {j : Nat} (h : j < l.length) : (l.map u16t)[j * 1]? = some (.v (.int .u16 (l.getD j 0))) := by simp [u16t, h]
theorem u64_get {l : List Int} {j : Nat} (h : j < l.length) : (l.map u64t)[j * 1]? = some (.v (.int .u64 (l.getD j 0))) := by simp [u64t, h]
theorem take_flat {l : List Int} {j k : Nat} (h : j < l.length) : (l.take (j + 1)).flatMap (leBytes k) = (l.take j).flatMap (leBytes k) ++ leBytes k (l.getD j 0) := by
  rw [List.take_succ_eq_append_getElem h, List.flatMap_append]
  simp [h]
def magic16 : List UInt8 := [127, 69, 76, 70, 2, 1, 1, 0, 0, 0, 0, 0, 0, 0, 0, 0]
def hdrA (e : Int) : List UInt8 := magic16 ++ leBytes 2 2 ++ leBytes 2 62 ++ leBytes 4 1 ++ leBytes 8 e ++ leBytes 8 64 ++ leBytes 8 0 ++ leBytes 4 0
def six16 (n : Nat) : List Int := [64, 56, n, 64, 0, 0]
def hdrF (i : Img) : List UInt8 := hdrA i.entry ++ (six16 i.segs.length).flatMap (leBytes 2)
theorem hdrA_len (e : Int) : (hdrA e).length = 52 := by simp [hdrA, magic16, leBytes_length]
def placeOf (s : Seg) (at_ : Int) : Int := if 0 < s.data.length then (at_ + 4095) / 4096 * 4096 else 0
def nextAt (s : Seg) (at_ : Int) : Int := if 0 < s.data.length then (at_ + 4095) / 4096 * 4096 + s.data.length else at_
def six64 (s : Seg) (p : Int) : List Int := [p, s.at_, s.at_, s.data.length, s.size, 4096]
def rowF (s : Seg) (p : Int) : List UInt8 := leBytes 4 1 ++ leBytes 4 s.may ++ (six64 s p).flatMap (leBytes 8)
theorem rowF_len (s : Seg) (p : Int) : (rowF s p).length = 56 := by simp [rowF, six64, leBytes_length]
def rowsF : List Seg → Int → List UInt8
  | [], _ => []
  | s :: r, a => rowF s (placeOf s a) ++ rowsF r (nextAt s a)
def pad (n : Nat) : Nat := (4096 - n % 4096) % 4096
def dataF : List Seg → List UInt8 → List UInt8
  | [], out => out
  | s :: r, out => dataF r (if 0 < s.data.length then out ++ List.replicate (pad out.length) 0 ++ s.data else out)
def writeF (i : Img) : List UInt8 := dataF i.segs (hdrF i ++ rowsF i.segs (64 + i.segs.length * 56))
def WriteF (i : Img) : List UInt8 := if checkedB i true then writeF i else []
theorem rowsF_drop {l : List Seg} {j : Nat} (h : j < l.length) (a : Int) : rowsF (l.drop j) a = rowF (l.getD j default) (placeOf (l.getD j default) a) ++ rowsF (l.drop (j + 1)) (nextAt (l.getD j default) a) := by
  rw [drop_seg h]; rfl
theorem dataF_drop {l : List Seg} {j : Nat} (h : j < l.length) (out : List UInt8) : dataF (l.drop j) out = dataF (l.drop (j + 1)) (if 0 < (l.getD j default).data.length then out ++ List.replicate (pad out.length) 0 ++ (l.getD j default).data else out) := by
  rw [drop_seg h]; rfl
theorem six16_range {n j : Nat} (hn : n ≤ 64) (h : j < 6) : 0 ≤ (six16 n).getD j 0 ∧ (six16 n).getD j 0 ≤ 65535 := by
  rcases j with _ | _ | _ | _ | _ | _ | j <;> simp [six16] <;> omega
theorem six64_range {s : Seg} {p : Int} {j : Nat} (hs : SegOk s) (hp : 0 ≤ p ∧ p ≤ 18446744073709551615) (h : j < 6) : 0 ≤ (six64 s p).getD j 0 ∧ (six64 s p).getD j 0 ≤ 18446744073709551615 := by
  obtain ⟨h1, h2, h3, h4, h5, h6, h7⟩ := hs
  rcases j with _ | _ | _ | _ | _ | _ | j <;> simp [six64] <;> omega
theorem seg_mem {l : List Seg} {j : Nat} (h : j < l.length) : l.getD j default ∈ l := by
  have e : l.getD j default = l[j] := by simp [h]
  rw [e]; exact List.getElem_mem h
theorem hdrF_len (i : Img) : (hdrF i).length = 64 := by simp [hdrF, hdrA_len, six16, leBytes_length]
theorem six16_len {n : Nat} : (six16 n).length = 6 := rfl
theorem six64_len {s : Seg} {p : Int} : (six64 s p).length = 6 := rfl
theorem chk_may : ∀ {e : Int} {strict : Bool} {l : List Seg} {en : Int} {b : Bool}, chk e strict l en b = true → ∀ s ∈ l, 1 ≤ s.may ∧ s.may ≤ 7 ∧ 1 ≤ s.size
  | e, strict, [], en, b, h, s, hs => by cases hs
  | e, strict, x :: r, en, b, h, s, hs => by
    rw [chk] at h
    split at h
    · cases h
    · rename_i hb
      rcases List.mem_cons.1 hs with rfl | hs
      · rw [bad_iff] at hb
        omega
      · exact chk_may h s hs
theorem checked_facts {i : Img} {strict : Bool} (h : checkedB i strict = true) : 1 ≤ i.segs.length ∧ i.segs.length ≤ 64 ∧ ∀ s ∈ i.segs, 1 ≤ s.may ∧ s.may ≤ 7 ∧ 1 ≤ s.size := by
  simp only [checkedB, Bool.and_eq_true, Bool.not_eq_true', Bool.or_eq_false_iff, decide_eq_false_iff_not] at h
  exact ⟨by omega, by omega, chk_may h.2⟩
end Go.Proofs.Ytckkcncgglfbbaa
