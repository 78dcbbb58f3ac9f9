/-
  TEXTS JOINED: Back, Cut, Lst, Inv, Pfx, Guess, CutR, Rdr.
-/
import Derived.Test.YtjndpakhmgapjaaDoorLd
set_option linter.unusedSimpArgs false
set_option linter.unusedVariables false
set_option linter.unusedSectionVars false
set_option linter.unnecessarySimpa false
namespace Go.Proofs.YtjndpakhmgapjaaDoor
open Go Go.RowKit
set_option linter.unusedSimpArgs false
set_option linter.unusedVariables false
set_option linter.unnecessarySimpa false
theorem bo {x : Int} (h0 : 0 ≤ x) (h1 : x ≤ 255) : ((byteOf x).toNat : Int) = x := by
  unfold byteOf
  rw [UInt8.toNat_ofNat']
  omega
abbrev R0 (k : Nat) : Rd := ⟨k, false, false⟩
theorem nx {bs : List UInt8} {k : Nat} (h : k < bs.length) : nextF bs (R0 k) = (byteAt bs k, R0 (k + 1)) := by
  rw [nextF, if_neg (by show ¬ (false || false) = true; decide), if_neg (by show ¬ k = bs.length; omega)]
theorem mx {k : Nat} {is : Bool} (h : is = true) : mustF (R0 k) is = R0 k := by
  subst h
  rfl
theorem leBytes_get : ∀ (m j : Nat) (n : Int), j < m → (leBytes m n)[j]? = some (UInt8.ofNat (n / 256 ^ j % 256).toNat)
  | 0, j, _, h => absurd h (by omega)
  | m + 1, 0, n, _ => by simp [leBytes]
  | m + 1, j + 1, n, h => by
    rw [leBytes, List.getElem?_cons_succ, leBytes_get m j (n / 256) (by omega), Int.pow_succ, Int.mul_comm, Int.ediv_ediv_of_nonneg (by decide)]
theorem mod_next (n : Int) (j : Nat) : n % 256 ^ j + n / 256 ^ j % 256 * 256 ^ j = n % 256 ^ (j + 1) := by
  have hp : (0 : Int) < 256 ^ j := Int.pow_pos (by decide)
  have e0 : (256 : Int) ^ (j + 1) = 256 ^ j * 256 := Int.pow_succ ..
  have a1 := Int.emod_add_mul_ediv n (256 ^ j)
  have a2 := Int.emod_add_mul_ediv (n / 256 ^ j) 256
  have b1 := Int.emod_nonneg n (show (256 : Int) ^ j ≠ 0 by omega)
  have b2 := Int.emod_lt_of_pos n hp
  have c1 := Int.emod_nonneg (n / 256 ^ j) (show (256 : Int) ≠ 0 by decide)
  have c2 := Int.emod_lt_of_pos (n / 256 ^ j) (show (0 : Int) < 256 by decide)
  have d1 : 0 ≤ n / 256 ^ j % 256 * 256 ^ j := Int.mul_nonneg c1 (by omega)
  have d2 : n / 256 ^ j % 256 * 256 ^ j ≤ 255 * 256 ^ j := Int.mul_le_mul_of_nonneg_right (by omega) (by omega)
  have e : n = (n % 256 ^ j + n / 256 ^ j % 256 * 256 ^ j) + 256 ^ (j + 1) * (n / 256 ^ j / 256) := by
    have : 256 ^ j * (n / 256 ^ j) = n / 256 ^ j % 256 * 256 ^ j + 256 ^ (j + 1) * (n / 256 ^ j / 256) := by
      have h3 : 256 ^ j * (n / 256 ^ j) = 256 ^ j * (n / 256 ^ j % 256 + 256 * (n / 256 ^ j / 256)) := by rw [a2]
      rw [h3, Int.mul_add, Int.mul_comm (256 ^ j) (n / 256 ^ j % 256), e0, Int.mul_assoc]
    omega
  have h := Int.add_mul_emod_self_left (n % 256 ^ j + n / 256 ^ j % 256 * 256 ^ j) (256 ^ (j + 1)) (n / 256 ^ j / 256)
  rw [← e] at h
  exact (h.trans (Int.emod_eq_of_lt (by omega) (by rw [e0]; omega))).symm
theorem imm_at (pre rest : List UInt8) (m : Nat) (n : Int) : ∀ j, j ≤ m → immS (pre ++ (leBytes m n ++ rest)) (R0 pre.length) j = (n % 256 ^ j, R0 (pre.length + j))
  | 0, _ => by
    show (0, R0 pre.length) = _
    rw [Int.pow_zero, Int.emod_one]
    rfl
  | j + 1, h => by
    have ih := imm_at pre rest m n j (by omega)
    have hl : pre.length + j < (pre ++ (leBytes m n ++ rest)).length := by
      rw [List.length_append, List.length_append, leBytes_length]; omega
    have hb : byteAt (pre ++ (leBytes m n ++ rest)) (pre.length + j) = n / 256 ^ j % 256 := by
      unfold byteAt
      rw [List.getD_eq_getElem?_getD, List.getElem?_append_right (by omega), Nat.add_sub_cancel_left, List.getElem?_append_left (by rw [leBytes_length]; omega), leBytes_get m j n (by omega)]
      show ((UInt8.ofNat (n / 256 ^ j % 256).toNat).toNat : Int) = _
      rw [UInt8.toNat_ofNat']
      have c1 := Int.emod_nonneg (n / 256 ^ j) (show (256 : Int) ≠ 0 by decide)
      have c2 := Int.emod_lt_of_pos (n / 256 ^ j) (show (0 : Int) < 256 by decide)
      omega
    show ((immS _ _ j).1 + (nextF _ (immS _ _ j).2).1 * 256 ^ j, (nextF _ (immS _ _ j).2).2) = _
    rw [ih, nx hl, hb]
    show (n % 256 ^ j + n / 256 ^ j % 256 * 256 ^ j, _) = _
    rw [mod_next]
    rfl
theorem sgn1 {n : Int} (h0 : -128 ≤ n) (h1 : n ≤ 127) : sgn 1 (n % 256 ^ 1) = n := by
  unfold sgn
  show (if 2 * (n % 256) < 256 then n % 256 else n % 256 - 256) = n
  split <;> omega
theorem sgn4 {n : Int} (h : smallF n = true) : sgn 4 (n % 256 ^ 4) = n := by
  unfold smallF inF at h
  rw [Bool.and_eq_true, decide_eq_true_eq, decide_eq_true_eq] at h
  unfold sgn
  show (if 2 * (n % 4294967296) < 4294967296 then n % 4294967296 else n % 4294967296 - 4294967296) = n
  split <;> omega
theorem sgn8 {n : Int} (h : I64 n) : sgn 8 (n % 256 ^ 8) = n := by
  unfold I64 at h
  unfold sgn
  show (if 2 * (n % 18446744073709551616) < 18446744073709551616 then n % 18446744073709551616 else n % 18446744073709551616 - 18446744073709551616) = n
  split <;> omega
theorem imm_v {pre rest : List UInt8} {m : Nat} {n : Int} (h : sgn m (n % 256 ^ m) = n) : immV (pre ++ (leBytes m n ++ rest)) (R0 pre.length) m = n ∧ immD (pre ++ (leBytes m n ++ rest)) (R0 pre.length) m = R0 (pre.length + m) := by
  unfold immV immD
  rw [imm_at pre rest m n m (Nat.le_refl _)]
  exact ⟨h, rfl⟩
/-- A register in two parts. -/
theorem reg_parts {p : Int} (hp : 0 ≤ p ∧ p ≤ 15) : orI (p / 8 * 8) (p % 8) = p := fin16 hp (fun p => orI (p / 8 * 8) (p % 8) = p) (by decide)
theorem rex_at {w p q : Int} (hw : w = 0 ∨ w = 1) (hp : 0 ≤ p ∧ p ≤ 15) (hq : 0 ≤ q ∧ q ≤ 15) : andI (64 + p / 8 * 4 + q / 8 + 8 * w) 240 = 64 ∧ andI (64 + p / 8 * 4 + q / 8 + 8 * w) 2 = 0 ∧ splitF (64 + p / 8 * 4 + q / 8 + 8 * w) = ⟨w, p / 8 * 8, q / 8 * 8⟩ ∧ andI (64 + p / 8 * 4 + q / 8 + 8 * w) 242 = 64 ∧ 64 ≤ 64 + p / 8 * 4 + q / 8 + 8 * w ∧ 64 + p / 8 * 4 + q / 8 + 8 * w ≤ 77 := by
  have h1 : p / 8 = 0 ∨ p / 8 = 1 := by omega
  have h2 : q / 8 = 0 ∨ q / 8 = 1 := by omega
  rcases hw with rfl | rfl <;> rcases h1 with h1 | h1 <;> rcases h2 with h2 | h2 <;> rw [h1, h2] <;> decide
theorem rexN_eq (w : Int) (b : Bool) (hw : w = if b then 1 else 0) (p q : Int) : rexN b p q = 64 + p / 8 * 4 + q / 8 + 8 * w := by
  subst hw
  cases b <;> simp [rexN]
theorem two_at {bs : List UInt8} {k : Nat} {w p q : Int} (hp : 0 ≤ p ∧ p ≤ 15) (hq : 0 ≤ q ∧ q ≤ 15) (hl : k < bs.length) (hb : byteAt bs k = twoN p q) : twoV bs ⟨w, p / 8 * 8, q / 8 * 8⟩ (R0 k) = (p, q) ∧ twoD bs (R0 k) = R0 (k + 1) := by
  unfold twoV twoD
  rw [nx hl, hb]
  unfold twoN
  have e1 : (192 + p % 8 * 8 + q % 8) / 8 % 8 = p % 8 := by omega
  have e2 : (192 + p % 8 * 8 + q % 8) % 8 = q % 8 := by omega
  have e3 : (192 + p % 8 * 8 + q % 8) / 64 = 3 := by omega
  dsimp only
  rw [e1, e2, e3, reg_parts hp, reg_parts hq]
  exact ⟨rfl, rfl⟩
theorem one_at {bs : List UInt8} {k : Nat} {w g q : Int} (hg : 0 ≤ g ∧ g ≤ 7) (hq : 0 ≤ q ∧ q ≤ 15) (hl : k < bs.length) (hb : byteAt bs k = twoN g q) : oneV bs ⟨w, 0, q / 8 * 8⟩ (R0 k) = (g, q) ∧ oneD bs ⟨w, 0, q / 8 * 8⟩ (R0 k) = R0 (k + 1) := by
  have h := two_at (bs := bs) (k := k) (w := w) (p := g) (q := q) (by omega) hq hl hb
  have e : g / 8 * 8 = 0 := by omega
  rw [e] at h
  exact h
theorem mem_at {pre rest : List UInt8} {w p q n : Int} (hp : 0 ≤ p ∧ p ≤ 15) (hq : 0 ≤ q ∧ q ≤ 15) (hn : smallF n = true) :
    memV (pre ++ (byteOf (memN p q) :: (((if q % 8 = 4 then [36] else []) ++ immF n 4) ++ rest))) ⟨w, p / 8 * 8, q / 8 * 8⟩ (R0 pre.length) = (p, q, n) ∧
    memD (pre ++ (byteOf (memN p q) :: (((if q % 8 = 4 then [36] else []) ++ immF n 4) ++ rest))) (R0 pre.length) = R0 (pre.length + 1 + (if q % 8 = 4 then 1 else 0) + 4) := by
  have hm : 0 ≤ memN p q ∧ memN p q ≤ 255 := by unfold memN; omega
  have e1 : memN p q / 8 % 8 = p % 8 := by unfold memN; omega
  have e2 : memN p q % 8 = q % 8 := by unfold memN; omega
  have e3 : memN p q / 64 = 2 := by unfold memN; omega
  generalize hbs : pre ++ (byteOf (memN p q) :: (((if q % 8 = 4 then [36] else []) ++ immF n 4) ++ rest)) = bs
  have hl : pre.length < bs.length := by rw [← hbs, List.length_append, List.length_cons]; omega
  have hb : byteAt bs pre.length = memN p q := by
    unfold byteAt
    rw [← hbs, List.getD_eq_getElem?_getD, List.getElem?_append_right (Nat.le_refl _), Nat.sub_self]
    exact bo hm.1 hm.2
  have h1 : nextF bs (R0 pre.length) = (memN p q, R0 (pre.length + 1)) := by rw [nx hl, hb]
  have hd1 : memD1 bs (R0 pre.length) = R0 (pre.length + 1) := by
    rw [memD1, h1, e3]
    rfl
  have hd2 : memD2 bs (R0 pre.length) = R0 (pre.length + 1 + (if q % 8 = 4 then 1 else 0)) := by
    rw [memD2, h1, hd1]
    dsimp only
    rw [e2]
    by_cases h4 : q % 8 = 4
    · rw [if_pos h4, if_pos h4] at *
      have hl2 : pre.length + 1 < bs.length := by
        rw [← hbs, List.length_append, List.length_cons, List.length_append, List.length_append]
        show _ < pre.length + (1 + (immF n 4).length + rest.length + 1)
        omega
      have hb2 : byteAt bs (pre.length + 1) = 36 := by
        unfold byteAt
        rw [← hbs, List.getD_eq_getElem?_getD, List.getElem?_append_right (by omega), Nat.add_sub_cancel_left]
        rfl
      rw [nx hl2, hb2]
      rfl
    · rw [if_neg h4, if_neg h4]
  have hi : immV bs (R0 (pre.length + 1 + (if q % 8 = 4 then 1 else 0))) 4 = n ∧ immD bs (R0 (pre.length + 1 + (if q % 8 = 4 then 1 else 0))) 4 = R0 (pre.length + 1 + (if q % 8 = 4 then 1 else 0) + 4) := by
    by_cases h4 : q % 8 = 4
    · rw [if_pos h4] at hbs ⊢
      have e := imm_v (pre := pre ++ [byteOf (memN p q), 36]) (rest := rest) (m := 4) (sgn4 hn)
      have el : (pre ++ [byteOf (memN p q), 36]).length = pre.length + 1 + 1 := by simp
      have eb : (pre ++ [byteOf (memN p q), 36]) ++ (leBytes 4 n ++ rest) = bs := by rw [← hbs]; simp [immF]
      rw [el, eb] at e
      exact e
    · rw [if_neg h4] at hbs ⊢
      have e := imm_v (pre := pre ++ [byteOf (memN p q)]) (rest := rest) (m := 4) (sgn4 hn)
      have el : (pre ++ [byteOf (memN p q)]).length = pre.length + 1 + 0 := by simp
      have eb : (pre ++ [byteOf (memN p q)]) ++ (leBytes 4 n ++ rest) = bs := by rw [← hbs]; simp [immF]
      rw [el, eb] at e
      exact e
  unfold memV memD
  rw [h1, hd2, hi.1, hi.2]
  dsimp only
  rw [e1, e2, reg_parts hp, reg_parts hq]
  exact ⟨rfl, rfl⟩
theorem ins_rex {bs : List UInt8} {w p q : Int} {b : Bool} (hw : w = if b then 1 else 0) (hp : 0 ≤ p ∧ p ≤ 15) (hq : 0 ≤ q ∧ q ≤ 15) (hl : 1 < bs.length) (hb : byteAt bs 0 = rexN b p q) : insR bs rd0 = prefIn bs ⟨w, p / 8 * 8, q / 8 * 8⟩ (byteAt bs 1) (R0 2) := by
  have hw2 : w = 0 ∨ w = 1 := by cases b <;> simp at hw <;> omega
  obtain ⟨a1, a2, a3, _, _, _⟩ := rex_at hw2 hp hq
  rw [rexN_eq w b hw] at hb
  have h1 : nextF bs rd0 = (byteAt bs 0, R0 1) := nx (by omega)
  rw [insR, h1, if_neg (by show ¬ false = true; decide), hb, insIn]
  dsimp only
  rw [if_pos a1, a2, a3]
  have h2 : nextF bs (mustF (R0 1) (decide ((0 : Int) = 0))) = (byteAt bs 1, R0 2) := nx hl
  rw [prefR, h2, if_neg (by show ¬ (false || false) = true; decide)]
theorem rexb {b : Bool} {p q : Int} (hp : 0 ≤ p ∧ p ≤ 15) (hq : 0 ≤ q ∧ q ≤ 15) : ((byteOf (rexN b p q)).toNat : Int) = rexN b p q := by
  have e := rexN_eq (if b then 1 else 0) b rfl p q
  have h := rex_at (w := if b then 1 else 0) (by cases b <;> simp) hp hq
  exact bo (by rw [e]; omega) (by rw [e]; omega)
theorem twob {p q : Int} : ((byteOf (twoN p q)).toNat : Int) = twoN p q := bo (by unfold twoN; omega) (by unfold twoN; omega)
theorem peek_two {bs : List UInt8} {k : Nat} {p q : Int} (hb : byteAt bs k = twoN p q) : ¬ peekF bs (R0 k) = true := by
  intro h
  rw [peekF, Bool.and_eq_true, decide_eq_true_eq, decide_eq_true_eq] at h
  have := h.2
  rw [show byteAt bs (R0 k).at_ = twoN p q from hb] at this
  unfold twoN at this
  omega
theorem memb {p q : Int} : ((byteOf (memN p q)).toNat : Int) = memN p q := bo (by unfold memN; omega) (by unfold memN; omega)
theorem peek_mem {bs : List UInt8} {k : Nat} {p q : Int} (hl : k < bs.length) (hb : byteAt bs k = memN p q) : peekF bs (R0 k) = true := by
  rw [peekF, Bool.and_eq_true, decide_eq_true_eq, decide_eq_true_eq]
  refine ⟨by show (k : Int) < bs.length; omega, ?_⟩
  rw [show byteAt bs (R0 k).at_ = memN p q from hb]
  unfold memN
  omega
theorem ins_first {bs : List UInt8} (hl : 0 < bs.length) : insR bs rd0 = insIn bs (byteAt bs 0) (R0 1) := by
  have h1 : nextF bs rd0 = (byteAt bs 0, R0 1) := nx hl
  rw [insR, h1, if_neg (by show ¬ false = true; decide)]
theorem far_at {bs : List UInt8} {x : Rx} (hx : x.wide = 1 ∨ x.reg = 0) (hl : 2 < bs.length) : farR bs x (R0 2) = farIn bs x (byteAt bs 2) (R0 3) := by
  have h1 : farD1 x (R0 2) = R0 2 := mx (by rw [Bool.or_eq_true, decide_eq_true_eq, decide_eq_true_eq]; exact hx)
  have h2 : nextF bs (R0 2) = (byteAt bs 2, R0 3) := nx hl
  rw [farR, h1, h2, if_neg (by show ¬ (false || false) = true; decide)]
theorem real_at {bs : List UInt8} {w p q f : Int} {b : Bool} (hw : w = if b then 1 else 0) (hp : 0 ≤ p ∧ p ≤ 15) (hq : 0 ≤ q ∧ q ≤ 15) (hf : f = 102 ∨ f = 242) (hl : 3 < bs.length) (h0 : byteAt bs 0 = f) (h1 : byteAt bs 1 = rexN b p q) (h2 : byteAt bs 2 = 15) : insR bs rd0 = realIn bs f ⟨w, p / 8 * 8, q / 8 * 8⟩ (byteAt bs 3) (R0 4) := by
  have hw2 : w = 0 ∨ w = 1 := by cases b <;> simp at hw <;> omega
  obtain ⟨_, _, a3, a4, _, _⟩ := rex_at hw2 hp hq
  rw [rexN_eq w b hw] at h1
  have e : insIn bs (byteAt bs 0) (R0 1) = realR bs f (R0 1) := by
    rw [h0]
    rcases hf with rfl | rfl <;> rfl
  rw [ins_first (by omega), e]
  have n1 : nextF bs (R0 1) = (byteAt bs 1, R0 2) := nx (by omega)
  have n2 : nextF bs (R0 2) = (byteAt bs 2, R0 3) := nx (by omega)
  have n3 : nextF bs (R0 3) = (byteAt bs 3, R0 4) := nx (by omega)
  have d1 : realD1 bs (R0 1) = R0 2 := by
    rw [realD1, n1, h1]
    dsimp only
    rw [a4]
    rfl
  have d2 : realD2 bs (R0 1) = R0 3 := by
    rw [realD2, d1, n2, h2]
    rfl
  rw [realR, d2, n1, n3, if_neg (by show ¬ false = true; decide), if_neg (by show ¬ (false || false) = true; decide), h1]
  dsimp only
  rw [a3]
theorem len_mem (q n : Int) (k : Nat) : ((if q % 8 = 4 then [(36 : UInt8)] else []) ++ immF n 4).length + k = k + (if q % 8 = 4 then 1 else 0) + 4 := by
  rw [List.length_append, imm_len]
  split
  · show 1 + 4 + k = k + 1 + 4; omega
  · show 0 + 4 + k = k + 0 + 4; omega
theorem low8 {d : Int} (hd : 0 ≤ d ∧ d ≤ 15) : andI (80 + d % 8) 248 = 80 ∧ andI (88 + d % 8) 248 = 88 ∧ andI (184 + d % 8) 248 = 184 := fin8 (fun a => andI (80 + a) 248 = 80 ∧ andI (88 + a) 248 = 88 ∧ andI (184 + a) 248 = 184) (by decide)
theorem cc16 {c : Int} (hc : 0 ≤ c ∧ c ≤ 15) : andI (144 + c) 240 = 144 ∧ andI (64 + c) 240 = 64 ∧ andI (112 + c) 240 = 112 ∧ andI (128 + c) 240 = 128 := fin16 hc (fun c => andI (144 + c) 240 = 144 ∧ andI (64 + c) 240 = 64 ∧ andI (112 + c) 240 = 112 ∧ andI (128 + c) 240 = 128) (by decide)
theorem back0 {d s c z n k : Int} (h : fitsF ⟨1, 0, 0, true, 1, [137], 3, 0, 2, 1, 0, 0⟩ ⟨k, d, s, c, z, n⟩ = true) (hI : I64 n) (tail : List UInt8) : insR (encF ⟨k, d, s, c, z, n⟩ ++ tail) rd0 = (⟨k, d, s, c, z, n⟩, R0 (encF ⟨k, d, s, c, z, n⟩).length) := by
  simp only [fitsF, Bool.and_eq_true, decide_eq_true_eq] at h
  obtain ⟨⟨⟨⟨⟨hk, hz⟩, hd⟩, hs⟩, hc⟩, hn⟩ := h
  subst hk; subst hz
  have dr := field_range hd
  have sr := field_range hs
  obtain rfl := fld0 hc
  obtain rfl : n = 0 := of_decide_eq_true hn
  have he : encF ⟨1, d, s, 0, 0, 0⟩ = byteOf (rexN true s d) :: 137 :: byteOf (twoN s d) :: [] := rfl
  have hL : (encF ⟨1, d, s, 0, 0, 0⟩).length = 3 := by
    rw [he]
    rfl
  rw [hL, he]
  show insR (byteOf (rexN true s d) :: 137 :: byteOf (twoN s d) :: tail : List UInt8) rd0 = _
  generalize hE : (byteOf (rexN true s d) :: 137 :: byteOf (twoN s d) :: tail : List UInt8) = bs
  have hl : 3 ≤ bs.length := by rw [← hE]; simp only [List.length_cons]; omega
  obtain ⟨t1, t2⟩ := two_at (bs := bs) (k := 2) (w := 1) sr dr (by omega) (by rw [← hE]; exact twob)
  have hr := ins_rex (bs := bs) (w := 1) (b := true) rfl sr dr (by omega) (by rw [← hE]; exact rexb sr dr)
  rw [hr]
  have b1 : byteAt bs 1 = 137 := (by rw [← hE]; exact rfl)
  rw [b1]
  have b2 : byteAt bs 2 = twoN s d := (by rw [← hE]; exact twob)
  refine (show prefIn bs (⟨1, s / 8 * 8, d / 8 * 8⟩ : Rx) 137 (R0 2) = movedR bs (⟨1, s / 8 * 8, d / 8 * 8⟩ : Rx) (R0 2) from rfl).trans ?_
  rw [movedR, if_neg (peek_two b2), t1, t2]
theorem back1 {d s c z n k : Int} (h : fitsF ⟨2, 0, 0, true, 1, [199], 3, 0, 2, 0, 0, 6⟩ ⟨k, d, s, c, z, n⟩ = true) (hI : I64 n) (tail : List UInt8) : insR (encF ⟨k, d, s, c, z, n⟩ ++ tail) rd0 = (⟨k, d, s, c, z, n⟩, R0 (encF ⟨k, d, s, c, z, n⟩).length) := by
  simp only [fitsF, Bool.and_eq_true, decide_eq_true_eq] at h
  obtain ⟨⟨⟨⟨⟨hk, hz⟩, hd⟩, hs⟩, hc⟩, hn⟩ := h
  subst hk; subst hz
  have dr := field_range hd
  obtain rfl := fld0 hs
  obtain rfl := fld0 hc
  have hn : smallF n = true := hn
  have hg : sgn 4 (n % 256 ^ 4) = n := sgn4 hn
  have he : encF ⟨2, d, 0, 0, 0, n⟩ = byteOf (rexN true 0 d) :: 199 :: byteOf (twoN 0 d) :: immF n 4 := by rw [show encF ⟨2, d, 0, 0, 0, n⟩ = (if smallF n = true then byteOf (rexN true 0 d) :: 199 :: byteOf (twoN 0 d) :: immF n 4 else byteOf (rexN true 0 d) :: byteOf (184 + d % 8) :: immF n 8) from rfl, if_pos hn]
  have hL : (encF ⟨2, d, 0, 0, 0, n⟩).length = 3 + 4 := by
    rw [he]
    show (immF n 4).length + 3 = _
    rw [imm_len]
  rw [hL, he]
  show insR (byteOf (rexN true 0 d) :: 199 :: byteOf (twoN 0 d) :: (immF n 4 ++ tail) : List UInt8) rd0 = _
  generalize hE : (byteOf (rexN true 0 d) :: 199 :: byteOf (twoN 0 d) :: (immF n 4 ++ tail) : List UInt8) = bs
  have hl : 3 ≤ bs.length := by rw [← hE]; simp only [List.length_cons]; omega
  obtain ⟨i1, i2⟩ := imm_v (pre := [byteOf (rexN true 0 d), 199, byteOf (twoN 0 d)]) (rest := tail) (m := 4) hg
  rw [show [byteOf (rexN true 0 d), 199, byteOf (twoN 0 d)] ++ (leBytes 4 n ++ tail) = bs from hE] at i1 i2
  rw [show ([byteOf (rexN true 0 d), 199, byteOf (twoN 0 d)] : List UInt8).length = 3 from rfl] at i1 i2
  have o1 : oneV bs (⟨1, 0 / 8 * 8, d / 8 * 8⟩ : Rx) (R0 2) = (0, d) := (one_at (bs := bs) (k := 2) (w := 1) (g := 0) (q := d) ⟨by decide, by decide⟩ dr (by omega) (by rw [← hE]; exact twob)).1
  have o2 : oneD bs (⟨1, 0 / 8 * 8, d / 8 * 8⟩ : Rx) (R0 2) = R0 3 := (one_at (bs := bs) (k := 2) (w := 1) (g := 0) (q := d) ⟨by decide, by decide⟩ dr (by omega) (by rw [← hE]; exact twob)).2
  have hr := ins_rex (bs := bs) (w := 1) (b := true) rfl ⟨Int.le_refl (0 : Int), show (0 : Int) ≤ 15 by decide⟩ dr (by omega) (by rw [← hE]; exact rexb ⟨Int.le_refl (0 : Int), show (0 : Int) ≤ 15 by decide⟩ dr)
  rw [hr]
  have b1 : byteAt bs 1 = 199 := (by rw [← hE]; exact rfl)
  rw [b1]
  refine (show prefIn bs (⟨1, 0 / 8 * 8, d / 8 * 8⟩ : Rx) 199 (R0 2) = (⟨2, (oneV bs (⟨1, 0 / 8 * 8, d / 8 * 8⟩ : Rx) (R0 2)).2, 0, 0, 0, immV bs (mustF (oneD bs (⟨1, 0 / 8 * 8, d / 8 * 8⟩ : Rx) (R0 2)) (decide ((oneV bs (⟨1, 0 / 8 * 8, d / 8 * 8⟩ : Rx) (R0 2)).1 = 0))) 4⟩, immD bs (mustF (oneD bs (⟨1, 0 / 8 * 8, d / 8 * 8⟩ : Rx) (R0 2)) (decide ((oneV bs (⟨1, 0 / 8 * 8, d / 8 * 8⟩ : Rx) (R0 2)).1 = 0))) 4) from rfl).trans ?_
  rw [o1, o2, show mustF (R0 3) (decide (((0, d) : Int × Int).1 = 0)) = R0 3 from rfl, i1, i2]
theorem back2 {d s c z n k : Int} (h : fitsF ⟨2, 0, 0, true, 1, [184], -1, 0, 3, 0, 0, 7⟩ ⟨k, d, s, c, z, n⟩ = true) (hI : I64 n) (tail : List UInt8) : insR (encF ⟨k, d, s, c, z, n⟩ ++ tail) rd0 = (⟨k, d, s, c, z, n⟩, R0 (encF ⟨k, d, s, c, z, n⟩).length) := by
  simp only [fitsF, Bool.and_eq_true, decide_eq_true_eq] at h
  obtain ⟨⟨⟨⟨⟨hk, hz⟩, hd⟩, hs⟩, hc⟩, hn⟩ := h
  subst hk; subst hz
  have dr := field_range hd
  obtain rfl := fld0 hs
  obtain rfl := fld0 hc
  have hn : smallF n = false := by simpa using (show (!smallF n) = true from hn)
  have hg : sgn 8 (n % 256 ^ 8) = n := sgn8 hI
  have he : encF ⟨2, d, 0, 0, 0, n⟩ = byteOf (rexN true 0 d) :: byteOf (184 + d % 8) :: immF n 8 := by rw [show encF ⟨2, d, 0, 0, 0, n⟩ = (if smallF n = true then byteOf (rexN true 0 d) :: 199 :: byteOf (twoN 0 d) :: immF n 4 else byteOf (rexN true 0 d) :: byteOf (184 + d % 8) :: immF n 8) from rfl, if_neg (by rw [hn]; decide)]
  have hL : (encF ⟨2, d, 0, 0, 0, n⟩).length = 2 + 8 := by
    rw [he]
    show (immF n 8).length + 2 = _
    rw [imm_len]
  rw [hL, he]
  show insR (byteOf (rexN true 0 d) :: byteOf (184 + d % 8) :: (immF n 8 ++ tail) : List UInt8) rd0 = _
  generalize hE : (byteOf (rexN true 0 d) :: byteOf (184 + d % 8) :: (immF n 8 ++ tail) : List UInt8) = bs
  have hl : 2 ≤ bs.length := by rw [← hE]; simp only [List.length_cons]; omega
  obtain ⟨i1, i2⟩ := imm_v (pre := [byteOf (rexN true 0 d), byteOf (184 + d % 8)]) (rest := tail) (m := 8) hg
  rw [show [byteOf (rexN true 0 d), byteOf (184 + d % 8)] ++ (leBytes 8 n ++ tail) = bs from hE] at i1 i2
  rw [show ([byteOf (rexN true 0 d), byteOf (184 + d % 8)] : List UInt8).length = 2 from rfl] at i1 i2
  have hr := ins_rex (bs := bs) (w := 1) (b := true) rfl ⟨Int.le_refl (0 : Int), show (0 : Int) ≤ 15 by decide⟩ dr (by omega) (by rw [← hE]; exact rexb ⟨Int.le_refl (0 : Int), show (0 : Int) ≤ 15 by decide⟩ dr)
  rw [hr]
  obtain ⟨l1, l2, l3⟩ := low8 dr
  have b1 : byteAt bs 1 = 184 + d % 8 := (by rw [← hE]; exact bo (by omega) (by omega))
  have e8 : (184 + d % 8) % 8 = d % 8 := by omega
  rw [b1]
  rw [prefIn, if_neg (by omega), if_neg (show ¬ (1 : Int) = 0 by decide), if_pos l3, e8, reg_parts dr]
  rw [show mustF (R0 2) (decide (((⟨1, 0 / 8 * 8, d / 8 * 8⟩ : Rx)).reg = 0)) = R0 2 from rfl, i1, i2, hn]
  rfl
theorem back3 {d s c z n k : Int} (h : fitsF ⟨3, 8, 0, true, 1, [139], 2, 0, 1, 2, 0, 6⟩ ⟨k, d, s, c, z, n⟩ = true) (hI : I64 n) (tail : List UInt8) : insR (encF ⟨k, d, s, c, z, n⟩ ++ tail) rd0 = (⟨k, d, s, c, z, n⟩, R0 (encF ⟨k, d, s, c, z, n⟩).length) := by
  simp only [fitsF, Bool.and_eq_true, decide_eq_true_eq] at h
  obtain ⟨⟨⟨⟨⟨hk, hz⟩, hd⟩, hs⟩, hc⟩, hn⟩ := h
  subst hk; subst hz
  have dr := field_range hd
  have sr := field_range hs
  obtain rfl := fld0 hc
  have hn : smallF n = true := hn
  have hg : sgn 4 (n % 256 ^ 4) = n := sgn4 hn
  have he : encF ⟨3, d, s, 0, 8, n⟩ = byteOf (rexN true d s) :: 139 :: byteOf (memN d s) :: ((if s % 8 = 4 then [(36 : UInt8)] else []) ++ immF n 4) := rfl
  have hL : (encF ⟨3, d, s, 0, 8, n⟩).length = 2 + 1 + (if s % 8 = 4 then 1 else 0) + 4 := by
    rw [he]
    exact len_mem s n 3
  rw [hL, he]
  show insR (byteOf (rexN true d s) :: 139 :: byteOf (memN d s) :: (((if s % 8 = 4 then [(36 : UInt8)] else []) ++ immF n 4) ++ tail) : List UInt8) rd0 = _
  generalize hE : (byteOf (rexN true d s) :: 139 :: byteOf (memN d s) :: (((if s % 8 = 4 then [(36 : UInt8)] else []) ++ immF n 4) ++ tail) : List UInt8) = bs
  have hl : 3 ≤ bs.length := by rw [← hE]; simp only [List.length_cons]; omega
  obtain ⟨m1, m2⟩ := mem_at (pre := [byteOf (rexN true d s), 139]) (rest := tail) (w := 1) dr sr hn
  rw [show [byteOf (rexN true d s), 139] ++ (byteOf (memN d s) :: (((if s % 8 = 4 then [36] else []) ++ immF n 4) ++ tail)) = bs from hE] at m1 m2
  rw [show ([byteOf (rexN true d s), 139] : List UInt8).length = 2 from rfl] at m1 m2
  have hr := ins_rex (bs := bs) (w := 1) (b := true) rfl dr sr (by omega) (by rw [← hE]; exact rexb dr sr)
  rw [hr]
  have b1 : byteAt bs 1 = 139 := (by rw [← hE]; exact rfl)
  rw [b1]
  refine (show prefIn bs (⟨1, d / 8 * 8, s / 8 * 8⟩ : Rx) 139 (R0 2) = (⟨3, (memV bs (⟨1, d / 8 * 8, s / 8 * 8⟩ : Rx) (R0 2)).1, (memV bs (⟨1, d / 8 * 8, s / 8 * 8⟩ : Rx) (R0 2)).2.1, 0, 8, (memV bs (⟨1, d / 8 * 8, s / 8 * 8⟩ : Rx) (R0 2)).2.2⟩, memD bs (R0 2)) from rfl).trans ?_
  rw [m1, m2]
theorem back4 {d s c z n k : Int} (h : fitsF ⟨3, 4, 0, true, 0, [139], 2, 0, 1, 2, 0, 6⟩ ⟨k, d, s, c, z, n⟩ = true) (hI : I64 n) (tail : List UInt8) : insR (encF ⟨k, d, s, c, z, n⟩ ++ tail) rd0 = (⟨k, d, s, c, z, n⟩, R0 (encF ⟨k, d, s, c, z, n⟩).length) := by
  simp only [fitsF, Bool.and_eq_true, decide_eq_true_eq] at h
  obtain ⟨⟨⟨⟨⟨hk, hz⟩, hd⟩, hs⟩, hc⟩, hn⟩ := h
  subst hk; subst hz
  have dr := field_range hd
  have sr := field_range hs
  obtain rfl := fld0 hc
  have hn : smallF n = true := hn
  have hg : sgn 4 (n % 256 ^ 4) = n := sgn4 hn
  have he : encF ⟨3, d, s, 0, 4, n⟩ = byteOf (rexN false d s) :: 139 :: byteOf (memN d s) :: ((if s % 8 = 4 then [(36 : UInt8)] else []) ++ immF n 4) := rfl
  have hL : (encF ⟨3, d, s, 0, 4, n⟩).length = 2 + 1 + (if s % 8 = 4 then 1 else 0) + 4 := by
    rw [he]
    exact len_mem s n 3
  rw [hL, he]
  show insR (byteOf (rexN false d s) :: 139 :: byteOf (memN d s) :: (((if s % 8 = 4 then [(36 : UInt8)] else []) ++ immF n 4) ++ tail) : List UInt8) rd0 = _
  generalize hE : (byteOf (rexN false d s) :: 139 :: byteOf (memN d s) :: (((if s % 8 = 4 then [(36 : UInt8)] else []) ++ immF n 4) ++ tail) : List UInt8) = bs
  have hl : 3 ≤ bs.length := by rw [← hE]; simp only [List.length_cons]; omega
  obtain ⟨m1, m2⟩ := mem_at (pre := [byteOf (rexN false d s), 139]) (rest := tail) (w := 0) dr sr hn
  rw [show [byteOf (rexN false d s), 139] ++ (byteOf (memN d s) :: (((if s % 8 = 4 then [36] else []) ++ immF n 4) ++ tail)) = bs from hE] at m1 m2
  rw [show ([byteOf (rexN false d s), 139] : List UInt8).length = 2 from rfl] at m1 m2
  have hr := ins_rex (bs := bs) (w := 0) (b := false) rfl dr sr (by omega) (by rw [← hE]; exact rexb dr sr)
  rw [hr]
  have b1 : byteAt bs 1 = 139 := (by rw [← hE]; exact rfl)
  rw [b1]
  refine (show prefIn bs (⟨0, d / 8 * 8, s / 8 * 8⟩ : Rx) 139 (R0 2) = (⟨3, (memV bs (⟨0, d / 8 * 8, s / 8 * 8⟩ : Rx) (R0 2)).1, (memV bs (⟨0, d / 8 * 8, s / 8 * 8⟩ : Rx) (R0 2)).2.1, 0, 4, (memV bs (⟨0, d / 8 * 8, s / 8 * 8⟩ : Rx) (R0 2)).2.2⟩, memD bs (R0 2)) from rfl).trans ?_
  rw [m1, m2]
theorem back5 {d s c z n k : Int} (h : fitsF ⟨3, 1, 0, true, 1, [15, 182], 2, 0, 1, 2, 0, 6⟩ ⟨k, d, s, c, z, n⟩ = true) (hI : I64 n) (tail : List UInt8) : insR (encF ⟨k, d, s, c, z, n⟩ ++ tail) rd0 = (⟨k, d, s, c, z, n⟩, R0 (encF ⟨k, d, s, c, z, n⟩).length) := by
  simp only [fitsF, Bool.and_eq_true, decide_eq_true_eq] at h
  obtain ⟨⟨⟨⟨⟨hk, hz⟩, hd⟩, hs⟩, hc⟩, hn⟩ := h
  subst hk; subst hz
  have dr := field_range hd
  have sr := field_range hs
  obtain rfl := fld0 hc
  have hn : smallF n = true := hn
  have hg : sgn 4 (n % 256 ^ 4) = n := sgn4 hn
  have he : encF ⟨3, d, s, 0, 1, n⟩ = byteOf (rexN true d s) :: 15 :: 182 :: byteOf (memN d s) :: ((if s % 8 = 4 then [(36 : UInt8)] else []) ++ immF n 4) := rfl
  have hL : (encF ⟨3, d, s, 0, 1, n⟩).length = 3 + 1 + (if s % 8 = 4 then 1 else 0) + 4 := by
    rw [he]
    exact len_mem s n 4
  rw [hL, he]
  show insR (byteOf (rexN true d s) :: 15 :: 182 :: byteOf (memN d s) :: (((if s % 8 = 4 then [(36 : UInt8)] else []) ++ immF n 4) ++ tail) : List UInt8) rd0 = _
  generalize hE : (byteOf (rexN true d s) :: 15 :: 182 :: byteOf (memN d s) :: (((if s % 8 = 4 then [(36 : UInt8)] else []) ++ immF n 4) ++ tail) : List UInt8) = bs
  have hl : 4 ≤ bs.length := by rw [← hE]; simp only [List.length_cons]; omega
  obtain ⟨m1, m2⟩ := mem_at (pre := [byteOf (rexN true d s), 15, 182]) (rest := tail) (w := 1) dr sr hn
  rw [show [byteOf (rexN true d s), 15, 182] ++ (byteOf (memN d s) :: (((if s % 8 = 4 then [36] else []) ++ immF n 4) ++ tail)) = bs from hE] at m1 m2
  rw [show ([byteOf (rexN true d s), 15, 182] : List UInt8).length = 3 from rfl] at m1 m2
  have hr := ins_rex (bs := bs) (w := 1) (b := true) rfl dr sr (by omega) (by rw [← hE]; exact rexb dr sr)
  rw [hr]
  have b1 : byteAt bs 1 = 15 := (by rw [← hE]; exact rfl)
  rw [b1]
  refine (show prefIn bs (⟨1, d / 8 * 8, s / 8 * 8⟩ : Rx) 15 (R0 2) = farR bs (⟨1, d / 8 * 8, s / 8 * 8⟩ : Rx) (R0 2) from rfl).trans ?_
  rw [far_at (by exact .inl rfl) (by omega)]
  have b2 : byteAt bs 2 = 182 := (by rw [← hE]; exact rfl)
  have b3 : byteAt bs 3 = memN d s := (by rw [← hE]; exact memb)
  rw [b2]
  refine (show farIn bs (⟨1, d / 8 * 8, s / 8 * 8⟩ : Rx) 182 (R0 3) = (if peekF bs (R0 3) = true then (⟨3, (memV bs (⟨1, d / 8 * 8, s / 8 * 8⟩ : Rx) (R0 3)).1, (memV bs (⟨1, d / 8 * 8, s / 8 * 8⟩ : Rx) (R0 3)).2.1, 0, 1, (memV bs (⟨1, d / 8 * 8, s / 8 * 8⟩ : Rx) (R0 3)).2.2⟩, memD bs (R0 3)) else (⟨33, (twoV bs (⟨1, d / 8 * 8, s / 8 * 8⟩ : Rx) (R0 3)).1, (twoV bs (⟨1, d / 8 * 8, s / 8 * 8⟩ : Rx) (R0 3)).2, 0, 0, 0⟩, twoD bs (R0 3))) from rfl).trans ?_
  rw [if_pos (peek_mem (by omega) b3), m1, m2]
theorem back6 {d s c z n k : Int} (h : fitsF ⟨4, 8, 0, true, 1, [137], 2, 0, 2, 1, 0, 6⟩ ⟨k, d, s, c, z, n⟩ = true) (hI : I64 n) (tail : List UInt8) : insR (encF ⟨k, d, s, c, z, n⟩ ++ tail) rd0 = (⟨k, d, s, c, z, n⟩, R0 (encF ⟨k, d, s, c, z, n⟩).length) := by
  simp only [fitsF, Bool.and_eq_true, decide_eq_true_eq] at h
  obtain ⟨⟨⟨⟨⟨hk, hz⟩, hd⟩, hs⟩, hc⟩, hn⟩ := h
  subst hk; subst hz
  have dr := field_range hd
  have sr := field_range hs
  obtain rfl := fld0 hc
  have hn : smallF n = true := hn
  have hg : sgn 4 (n % 256 ^ 4) = n := sgn4 hn
  have he : encF ⟨4, d, s, 0, 8, n⟩ = byteOf (rexN true s d) :: 137 :: byteOf (memN s d) :: ((if d % 8 = 4 then [(36 : UInt8)] else []) ++ immF n 4) := rfl
  have hL : (encF ⟨4, d, s, 0, 8, n⟩).length = 2 + 1 + (if d % 8 = 4 then 1 else 0) + 4 := by
    rw [he]
    exact len_mem d n 3
  rw [hL, he]
  show insR (byteOf (rexN true s d) :: 137 :: byteOf (memN s d) :: (((if d % 8 = 4 then [(36 : UInt8)] else []) ++ immF n 4) ++ tail) : List UInt8) rd0 = _
  generalize hE : (byteOf (rexN true s d) :: 137 :: byteOf (memN s d) :: (((if d % 8 = 4 then [(36 : UInt8)] else []) ++ immF n 4) ++ tail) : List UInt8) = bs
  have hl : 3 ≤ bs.length := by rw [← hE]; simp only [List.length_cons]; omega
  obtain ⟨m1, m2⟩ := mem_at (pre := [byteOf (rexN true s d), 137]) (rest := tail) (w := 1) sr dr hn
  rw [show [byteOf (rexN true s d), 137] ++ (byteOf (memN s d) :: (((if d % 8 = 4 then [36] else []) ++ immF n 4) ++ tail)) = bs from hE] at m1 m2
  rw [show ([byteOf (rexN true s d), 137] : List UInt8).length = 2 from rfl] at m1 m2
  have hr := ins_rex (bs := bs) (w := 1) (b := true) rfl sr dr (by omega) (by rw [← hE]; exact rexb sr dr)
  rw [hr]
  have b1 : byteAt bs 1 = 137 := (by rw [← hE]; exact rfl)
  rw [b1]
  have b2 : byteAt bs 2 = memN s d := (by rw [← hE]; exact memb)
  refine (show prefIn bs (⟨1, s / 8 * 8, d / 8 * 8⟩ : Rx) 137 (R0 2) = movedR bs (⟨1, s / 8 * 8, d / 8 * 8⟩ : Rx) (R0 2) from rfl).trans ?_
  rw [movedR, if_pos (peek_mem (by omega) b2), m1, m2]
theorem back7 {d s c z n k : Int} (h : fitsF ⟨4, 4, 0, true, 0, [137], 2, 0, 2, 1, 0, 6⟩ ⟨k, d, s, c, z, n⟩ = true) (hI : I64 n) (tail : List UInt8) : insR (encF ⟨k, d, s, c, z, n⟩ ++ tail) rd0 = (⟨k, d, s, c, z, n⟩, R0 (encF ⟨k, d, s, c, z, n⟩).length) := by
  simp only [fitsF, Bool.and_eq_true, decide_eq_true_eq] at h
  obtain ⟨⟨⟨⟨⟨hk, hz⟩, hd⟩, hs⟩, hc⟩, hn⟩ := h
  subst hk; subst hz
  have dr := field_range hd
  have sr := field_range hs
  obtain rfl := fld0 hc
  have hn : smallF n = true := hn
  have hg : sgn 4 (n % 256 ^ 4) = n := sgn4 hn
  have he : encF ⟨4, d, s, 0, 4, n⟩ = byteOf (rexN false s d) :: 137 :: byteOf (memN s d) :: ((if d % 8 = 4 then [(36 : UInt8)] else []) ++ immF n 4) := rfl
  have hL : (encF ⟨4, d, s, 0, 4, n⟩).length = 2 + 1 + (if d % 8 = 4 then 1 else 0) + 4 := by
    rw [he]
    exact len_mem d n 3
  rw [hL, he]
  show insR (byteOf (rexN false s d) :: 137 :: byteOf (memN s d) :: (((if d % 8 = 4 then [(36 : UInt8)] else []) ++ immF n 4) ++ tail) : List UInt8) rd0 = _
  generalize hE : (byteOf (rexN false s d) :: 137 :: byteOf (memN s d) :: (((if d % 8 = 4 then [(36 : UInt8)] else []) ++ immF n 4) ++ tail) : List UInt8) = bs
  have hl : 3 ≤ bs.length := by rw [← hE]; simp only [List.length_cons]; omega
  obtain ⟨m1, m2⟩ := mem_at (pre := [byteOf (rexN false s d), 137]) (rest := tail) (w := 0) sr dr hn
  rw [show [byteOf (rexN false s d), 137] ++ (byteOf (memN s d) :: (((if d % 8 = 4 then [36] else []) ++ immF n 4) ++ tail)) = bs from hE] at m1 m2
  rw [show ([byteOf (rexN false s d), 137] : List UInt8).length = 2 from rfl] at m1 m2
  have hr := ins_rex (bs := bs) (w := 0) (b := false) rfl sr dr (by omega) (by rw [← hE]; exact rexb sr dr)
  rw [hr]
  have b1 : byteAt bs 1 = 137 := (by rw [← hE]; exact rfl)
  rw [b1]
  refine (show prefIn bs (⟨0, s / 8 * 8, d / 8 * 8⟩ : Rx) 137 (R0 2) = (⟨4, (memV bs (⟨0, s / 8 * 8, d / 8 * 8⟩ : Rx) (R0 2)).2.1, (memV bs (⟨0, s / 8 * 8, d / 8 * 8⟩ : Rx) (R0 2)).1, 0, 4, (memV bs (⟨0, s / 8 * 8, d / 8 * 8⟩ : Rx) (R0 2)).2.2⟩, memD bs (R0 2)) from rfl).trans ?_
  rw [m1, m2]
theorem back8 {d s c z n k : Int} (h : fitsF ⟨4, 1, 0, true, 0, [136], 2, 0, 2, 1, 0, 6⟩ ⟨k, d, s, c, z, n⟩ = true) (hI : I64 n) (tail : List UInt8) : insR (encF ⟨k, d, s, c, z, n⟩ ++ tail) rd0 = (⟨k, d, s, c, z, n⟩, R0 (encF ⟨k, d, s, c, z, n⟩).length) := by
  simp only [fitsF, Bool.and_eq_true, decide_eq_true_eq] at h
  obtain ⟨⟨⟨⟨⟨hk, hz⟩, hd⟩, hs⟩, hc⟩, hn⟩ := h
  subst hk; subst hz
  have dr := field_range hd
  have sr := field_range hs
  obtain rfl := fld0 hc
  have hn : smallF n = true := hn
  have hg : sgn 4 (n % 256 ^ 4) = n := sgn4 hn
  have he : encF ⟨4, d, s, 0, 1, n⟩ = byteOf (rexN false s d) :: 136 :: byteOf (memN s d) :: ((if d % 8 = 4 then [(36 : UInt8)] else []) ++ immF n 4) := rfl
  have hL : (encF ⟨4, d, s, 0, 1, n⟩).length = 2 + 1 + (if d % 8 = 4 then 1 else 0) + 4 := by
    rw [he]
    exact len_mem d n 3
  rw [hL, he]
  show insR (byteOf (rexN false s d) :: 136 :: byteOf (memN s d) :: (((if d % 8 = 4 then [(36 : UInt8)] else []) ++ immF n 4) ++ tail) : List UInt8) rd0 = _
  generalize hE : (byteOf (rexN false s d) :: 136 :: byteOf (memN s d) :: (((if d % 8 = 4 then [(36 : UInt8)] else []) ++ immF n 4) ++ tail) : List UInt8) = bs
  have hl : 3 ≤ bs.length := by rw [← hE]; simp only [List.length_cons]; omega
  obtain ⟨m1, m2⟩ := mem_at (pre := [byteOf (rexN false s d), 136]) (rest := tail) (w := 0) sr dr hn
  rw [show [byteOf (rexN false s d), 136] ++ (byteOf (memN s d) :: (((if d % 8 = 4 then [36] else []) ++ immF n 4) ++ tail)) = bs from hE] at m1 m2
  rw [show ([byteOf (rexN false s d), 136] : List UInt8).length = 2 from rfl] at m1 m2
  have hr := ins_rex (bs := bs) (w := 0) (b := false) rfl sr dr (by omega) (by rw [← hE]; exact rexb sr dr)
  rw [hr]
  have b1 : byteAt bs 1 = 136 := (by rw [← hE]; exact rfl)
  rw [b1]
  refine (show prefIn bs (⟨0, s / 8 * 8, d / 8 * 8⟩ : Rx) 136 (R0 2) = (⟨4, (memV bs (⟨0, s / 8 * 8, d / 8 * 8⟩ : Rx) (R0 2)).2.1, (memV bs (⟨0, s / 8 * 8, d / 8 * 8⟩ : Rx) (R0 2)).1, 0, 1, (memV bs (⟨0, s / 8 * 8, d / 8 * 8⟩ : Rx) (R0 2)).2.2⟩, memD bs (R0 2)) from rfl).trans ?_
  rw [m1, m2]
theorem back9 {d s c z n k : Int} (h : fitsF ⟨5, 0, 0, true, 1, [141], 2, 0, 1, 2, 0, 6⟩ ⟨k, d, s, c, z, n⟩ = true) (hI : I64 n) (tail : List UInt8) : insR (encF ⟨k, d, s, c, z, n⟩ ++ tail) rd0 = (⟨k, d, s, c, z, n⟩, R0 (encF ⟨k, d, s, c, z, n⟩).length) := by
  simp only [fitsF, Bool.and_eq_true, decide_eq_true_eq] at h
  obtain ⟨⟨⟨⟨⟨hk, hz⟩, hd⟩, hs⟩, hc⟩, hn⟩ := h
  subst hk; subst hz
  have dr := field_range hd
  have sr := field_range hs
  obtain rfl := fld0 hc
  have hn : smallF n = true := hn
  have hg : sgn 4 (n % 256 ^ 4) = n := sgn4 hn
  have he : encF ⟨5, d, s, 0, 0, n⟩ = byteOf (rexN true d s) :: 141 :: byteOf (memN d s) :: ((if s % 8 = 4 then [(36 : UInt8)] else []) ++ immF n 4) := rfl
  have hL : (encF ⟨5, d, s, 0, 0, n⟩).length = 2 + 1 + (if s % 8 = 4 then 1 else 0) + 4 := by
    rw [he]
    exact len_mem s n 3
  rw [hL, he]
  show insR (byteOf (rexN true d s) :: 141 :: byteOf (memN d s) :: (((if s % 8 = 4 then [(36 : UInt8)] else []) ++ immF n 4) ++ tail) : List UInt8) rd0 = _
  generalize hE : (byteOf (rexN true d s) :: 141 :: byteOf (memN d s) :: (((if s % 8 = 4 then [(36 : UInt8)] else []) ++ immF n 4) ++ tail) : List UInt8) = bs
  have hl : 3 ≤ bs.length := by rw [← hE]; simp only [List.length_cons]; omega
  obtain ⟨m1, m2⟩ := mem_at (pre := [byteOf (rexN true d s), 141]) (rest := tail) (w := 1) dr sr hn
  rw [show [byteOf (rexN true d s), 141] ++ (byteOf (memN d s) :: (((if s % 8 = 4 then [36] else []) ++ immF n 4) ++ tail)) = bs from hE] at m1 m2
  rw [show ([byteOf (rexN true d s), 141] : List UInt8).length = 2 from rfl] at m1 m2
  have hr := ins_rex (bs := bs) (w := 1) (b := true) rfl dr sr (by omega) (by rw [← hE]; exact rexb dr sr)
  rw [hr]
  have b1 : byteAt bs 1 = 141 := (by rw [← hE]; exact rfl)
  rw [b1]
  refine (show prefIn bs (⟨1, d / 8 * 8, s / 8 * 8⟩ : Rx) 141 (R0 2) = (⟨5, (memV bs (⟨1, d / 8 * 8, s / 8 * 8⟩ : Rx) (R0 2)).1, (memV bs (⟨1, d / 8 * 8, s / 8 * 8⟩ : Rx) (R0 2)).2.1, 0, 0, (memV bs (⟨1, d / 8 * 8, s / 8 * 8⟩ : Rx) (R0 2)).2.2⟩, memD bs (R0 2)) from rfl).trans ?_
  rw [m1, m2]
theorem back10 {d s c z n k : Int} (h : fitsF ⟨6, 0, 0, true, 1, [1], 3, 0, 2, 1, 0, 0⟩ ⟨k, d, s, c, z, n⟩ = true) (hI : I64 n) (tail : List UInt8) : insR (encF ⟨k, d, s, c, z, n⟩ ++ tail) rd0 = (⟨k, d, s, c, z, n⟩, R0 (encF ⟨k, d, s, c, z, n⟩).length) := by
  simp only [fitsF, Bool.and_eq_true, decide_eq_true_eq] at h
  obtain ⟨⟨⟨⟨⟨hk, hz⟩, hd⟩, hs⟩, hc⟩, hn⟩ := h
  subst hk; subst hz
  have dr := field_range hd
  have sr := field_range hs
  obtain rfl := fld0 hc
  obtain rfl : n = 0 := of_decide_eq_true hn
  have he : encF ⟨6, d, s, 0, 0, 0⟩ = byteOf (rexN true s d) :: 1 :: byteOf (twoN s d) :: [] := rfl
  have hL : (encF ⟨6, d, s, 0, 0, 0⟩).length = 3 := by
    rw [he]
    rfl
  rw [hL, he]
  show insR (byteOf (rexN true s d) :: 1 :: byteOf (twoN s d) :: tail : List UInt8) rd0 = _
  generalize hE : (byteOf (rexN true s d) :: 1 :: byteOf (twoN s d) :: tail : List UInt8) = bs
  have hl : 3 ≤ bs.length := by rw [← hE]; simp only [List.length_cons]; omega
  obtain ⟨t1, t2⟩ := two_at (bs := bs) (k := 2) (w := 1) sr dr (by omega) (by rw [← hE]; exact twob)
  have hr := ins_rex (bs := bs) (w := 1) (b := true) rfl sr dr (by omega) (by rw [← hE]; exact rexb sr dr)
  rw [hr]
  have b1 : byteAt bs 1 = 1 := (by rw [← hE]; exact rfl)
  rw [b1]
  refine (show prefIn bs (⟨1, s / 8 * 8, d / 8 * 8⟩ : Rx) 1 (R0 2) = (⟨6, (twoV bs (⟨1, s / 8 * 8, d / 8 * 8⟩ : Rx) (R0 2)).2, (twoV bs (⟨1, s / 8 * 8, d / 8 * 8⟩ : Rx) (R0 2)).1, 0, 0, 0⟩, twoD bs (R0 2)) from rfl).trans ?_
  rw [t1, t2]
theorem back11 {d s c z n k : Int} (h : fitsF ⟨7, 0, 0, true, 1, [9], 3, 0, 2, 1, 0, 0⟩ ⟨k, d, s, c, z, n⟩ = true) (hI : I64 n) (tail : List UInt8) : insR (encF ⟨k, d, s, c, z, n⟩ ++ tail) rd0 = (⟨k, d, s, c, z, n⟩, R0 (encF ⟨k, d, s, c, z, n⟩).length) := by
  simp only [fitsF, Bool.and_eq_true, decide_eq_true_eq] at h
  obtain ⟨⟨⟨⟨⟨hk, hz⟩, hd⟩, hs⟩, hc⟩, hn⟩ := h
  subst hk; subst hz
  have dr := field_range hd
  have sr := field_range hs
  obtain rfl := fld0 hc
  obtain rfl : n = 0 := of_decide_eq_true hn
  have he : encF ⟨7, d, s, 0, 0, 0⟩ = byteOf (rexN true s d) :: 9 :: byteOf (twoN s d) :: [] := rfl
  have hL : (encF ⟨7, d, s, 0, 0, 0⟩).length = 3 := by
    rw [he]
    rfl
  rw [hL, he]
  show insR (byteOf (rexN true s d) :: 9 :: byteOf (twoN s d) :: tail : List UInt8) rd0 = _
  generalize hE : (byteOf (rexN true s d) :: 9 :: byteOf (twoN s d) :: tail : List UInt8) = bs
  have hl : 3 ≤ bs.length := by rw [← hE]; simp only [List.length_cons]; omega
  obtain ⟨t1, t2⟩ := two_at (bs := bs) (k := 2) (w := 1) sr dr (by omega) (by rw [← hE]; exact twob)
  have hr := ins_rex (bs := bs) (w := 1) (b := true) rfl sr dr (by omega) (by rw [← hE]; exact rexb sr dr)
  rw [hr]
  have b1 : byteAt bs 1 = 9 := (by rw [← hE]; exact rfl)
  rw [b1]
  refine (show prefIn bs (⟨1, s / 8 * 8, d / 8 * 8⟩ : Rx) 9 (R0 2) = (⟨7, (twoV bs (⟨1, s / 8 * 8, d / 8 * 8⟩ : Rx) (R0 2)).2, (twoV bs (⟨1, s / 8 * 8, d / 8 * 8⟩ : Rx) (R0 2)).1, 0, 0, 0⟩, twoD bs (R0 2)) from rfl).trans ?_
  rw [t1, t2]
theorem back12 {d s c z n k : Int} (h : fitsF ⟨8, 0, 0, true, 1, [17], 3, 0, 2, 1, 0, 0⟩ ⟨k, d, s, c, z, n⟩ = true) (hI : I64 n) (tail : List UInt8) : insR (encF ⟨k, d, s, c, z, n⟩ ++ tail) rd0 = (⟨k, d, s, c, z, n⟩, R0 (encF ⟨k, d, s, c, z, n⟩).length) := by
  simp only [fitsF, Bool.and_eq_true, decide_eq_true_eq] at h
  obtain ⟨⟨⟨⟨⟨hk, hz⟩, hd⟩, hs⟩, hc⟩, hn⟩ := h
  subst hk; subst hz
  have dr := field_range hd
  have sr := field_range hs
  obtain rfl := fld0 hc
  obtain rfl : n = 0 := of_decide_eq_true hn
  have he : encF ⟨8, d, s, 0, 0, 0⟩ = byteOf (rexN true s d) :: 17 :: byteOf (twoN s d) :: [] := rfl
  have hL : (encF ⟨8, d, s, 0, 0, 0⟩).length = 3 := by
    rw [he]
    rfl
  rw [hL, he]
  show insR (byteOf (rexN true s d) :: 17 :: byteOf (twoN s d) :: tail : List UInt8) rd0 = _
  generalize hE : (byteOf (rexN true s d) :: 17 :: byteOf (twoN s d) :: tail : List UInt8) = bs
  have hl : 3 ≤ bs.length := by rw [← hE]; simp only [List.length_cons]; omega
  obtain ⟨t1, t2⟩ := two_at (bs := bs) (k := 2) (w := 1) sr dr (by omega) (by rw [← hE]; exact twob)
  have hr := ins_rex (bs := bs) (w := 1) (b := true) rfl sr dr (by omega) (by rw [← hE]; exact rexb sr dr)
  rw [hr]
  have b1 : byteAt bs 1 = 17 := (by rw [← hE]; exact rfl)
  rw [b1]
  refine (show prefIn bs (⟨1, s / 8 * 8, d / 8 * 8⟩ : Rx) 17 (R0 2) = (⟨8, (twoV bs (⟨1, s / 8 * 8, d / 8 * 8⟩ : Rx) (R0 2)).2, (twoV bs (⟨1, s / 8 * 8, d / 8 * 8⟩ : Rx) (R0 2)).1, 0, 0, 0⟩, twoD bs (R0 2)) from rfl).trans ?_
  rw [t1, t2]
theorem back13 {d s c z n k : Int} (h : fitsF ⟨9, 0, 0, true, 1, [25], 3, 0, 2, 1, 0, 0⟩ ⟨k, d, s, c, z, n⟩ = true) (hI : I64 n) (tail : List UInt8) : insR (encF ⟨k, d, s, c, z, n⟩ ++ tail) rd0 = (⟨k, d, s, c, z, n⟩, R0 (encF ⟨k, d, s, c, z, n⟩).length) := by
  simp only [fitsF, Bool.and_eq_true, decide_eq_true_eq] at h
  obtain ⟨⟨⟨⟨⟨hk, hz⟩, hd⟩, hs⟩, hc⟩, hn⟩ := h
  subst hk; subst hz
  have dr := field_range hd
  have sr := field_range hs
  obtain rfl := fld0 hc
  obtain rfl : n = 0 := of_decide_eq_true hn
  have he : encF ⟨9, d, s, 0, 0, 0⟩ = byteOf (rexN true s d) :: 25 :: byteOf (twoN s d) :: [] := rfl
  have hL : (encF ⟨9, d, s, 0, 0, 0⟩).length = 3 := by
    rw [he]
    rfl
  rw [hL, he]
  show insR (byteOf (rexN true s d) :: 25 :: byteOf (twoN s d) :: tail : List UInt8) rd0 = _
  generalize hE : (byteOf (rexN true s d) :: 25 :: byteOf (twoN s d) :: tail : List UInt8) = bs
  have hl : 3 ≤ bs.length := by rw [← hE]; simp only [List.length_cons]; omega
  obtain ⟨t1, t2⟩ := two_at (bs := bs) (k := 2) (w := 1) sr dr (by omega) (by rw [← hE]; exact twob)
  have hr := ins_rex (bs := bs) (w := 1) (b := true) rfl sr dr (by omega) (by rw [← hE]; exact rexb sr dr)
  rw [hr]
  have b1 : byteAt bs 1 = 25 := (by rw [← hE]; exact rfl)
  rw [b1]
  refine (show prefIn bs (⟨1, s / 8 * 8, d / 8 * 8⟩ : Rx) 25 (R0 2) = (⟨9, (twoV bs (⟨1, s / 8 * 8, d / 8 * 8⟩ : Rx) (R0 2)).2, (twoV bs (⟨1, s / 8 * 8, d / 8 * 8⟩ : Rx) (R0 2)).1, 0, 0, 0⟩, twoD bs (R0 2)) from rfl).trans ?_
  rw [t1, t2]
theorem back14 {d s c z n k : Int} (h : fitsF ⟨10, 0, 0, true, 1, [33], 3, 0, 2, 1, 0, 0⟩ ⟨k, d, s, c, z, n⟩ = true) (hI : I64 n) (tail : List UInt8) : insR (encF ⟨k, d, s, c, z, n⟩ ++ tail) rd0 = (⟨k, d, s, c, z, n⟩, R0 (encF ⟨k, d, s, c, z, n⟩).length) := by
  simp only [fitsF, Bool.and_eq_true, decide_eq_true_eq] at h
  obtain ⟨⟨⟨⟨⟨hk, hz⟩, hd⟩, hs⟩, hc⟩, hn⟩ := h
  subst hk; subst hz
  have dr := field_range hd
  have sr := field_range hs
  obtain rfl := fld0 hc
  obtain rfl : n = 0 := of_decide_eq_true hn
  have he : encF ⟨10, d, s, 0, 0, 0⟩ = byteOf (rexN true s d) :: 33 :: byteOf (twoN s d) :: [] := rfl
  have hL : (encF ⟨10, d, s, 0, 0, 0⟩).length = 3 := by
    rw [he]
    rfl
  rw [hL, he]
  show insR (byteOf (rexN true s d) :: 33 :: byteOf (twoN s d) :: tail : List UInt8) rd0 = _
  generalize hE : (byteOf (rexN true s d) :: 33 :: byteOf (twoN s d) :: tail : List UInt8) = bs
  have hl : 3 ≤ bs.length := by rw [← hE]; simp only [List.length_cons]; omega
  obtain ⟨t1, t2⟩ := two_at (bs := bs) (k := 2) (w := 1) sr dr (by omega) (by rw [← hE]; exact twob)
  have hr := ins_rex (bs := bs) (w := 1) (b := true) rfl sr dr (by omega) (by rw [← hE]; exact rexb sr dr)
  rw [hr]
  have b1 : byteAt bs 1 = 33 := (by rw [← hE]; exact rfl)
  rw [b1]
  refine (show prefIn bs (⟨1, s / 8 * 8, d / 8 * 8⟩ : Rx) 33 (R0 2) = (⟨10, (twoV bs (⟨1, s / 8 * 8, d / 8 * 8⟩ : Rx) (R0 2)).2, (twoV bs (⟨1, s / 8 * 8, d / 8 * 8⟩ : Rx) (R0 2)).1, 0, 0, 0⟩, twoD bs (R0 2)) from rfl).trans ?_
  rw [t1, t2]
theorem back15 {d s c z n k : Int} (h : fitsF ⟨11, 0, 0, true, 1, [41], 3, 0, 2, 1, 0, 0⟩ ⟨k, d, s, c, z, n⟩ = true) (hI : I64 n) (tail : List UInt8) : insR (encF ⟨k, d, s, c, z, n⟩ ++ tail) rd0 = (⟨k, d, s, c, z, n⟩, R0 (encF ⟨k, d, s, c, z, n⟩).length) := by
  simp only [fitsF, Bool.and_eq_true, decide_eq_true_eq] at h
  obtain ⟨⟨⟨⟨⟨hk, hz⟩, hd⟩, hs⟩, hc⟩, hn⟩ := h
  subst hk; subst hz
  have dr := field_range hd
  have sr := field_range hs
  obtain rfl := fld0 hc
  obtain rfl : n = 0 := of_decide_eq_true hn
  have he : encF ⟨11, d, s, 0, 0, 0⟩ = byteOf (rexN true s d) :: 41 :: byteOf (twoN s d) :: [] := rfl
  have hL : (encF ⟨11, d, s, 0, 0, 0⟩).length = 3 := by
    rw [he]
    rfl
  rw [hL, he]
  show insR (byteOf (rexN true s d) :: 41 :: byteOf (twoN s d) :: tail : List UInt8) rd0 = _
  generalize hE : (byteOf (rexN true s d) :: 41 :: byteOf (twoN s d) :: tail : List UInt8) = bs
  have hl : 3 ≤ bs.length := by rw [← hE]; simp only [List.length_cons]; omega
  obtain ⟨t1, t2⟩ := two_at (bs := bs) (k := 2) (w := 1) sr dr (by omega) (by rw [← hE]; exact twob)
  have hr := ins_rex (bs := bs) (w := 1) (b := true) rfl sr dr (by omega) (by rw [← hE]; exact rexb sr dr)
  rw [hr]
  have b1 : byteAt bs 1 = 41 := (by rw [← hE]; exact rfl)
  rw [b1]
  refine (show prefIn bs (⟨1, s / 8 * 8, d / 8 * 8⟩ : Rx) 41 (R0 2) = (⟨11, (twoV bs (⟨1, s / 8 * 8, d / 8 * 8⟩ : Rx) (R0 2)).2, (twoV bs (⟨1, s / 8 * 8, d / 8 * 8⟩ : Rx) (R0 2)).1, 0, 0, 0⟩, twoD bs (R0 2)) from rfl).trans ?_
  rw [t1, t2]
theorem back16 {d s c z n k : Int} (h : fitsF ⟨12, 0, 0, true, 1, [49], 3, 0, 2, 1, 0, 0⟩ ⟨k, d, s, c, z, n⟩ = true) (hI : I64 n) (tail : List UInt8) : insR (encF ⟨k, d, s, c, z, n⟩ ++ tail) rd0 = (⟨k, d, s, c, z, n⟩, R0 (encF ⟨k, d, s, c, z, n⟩).length) := by
  simp only [fitsF, Bool.and_eq_true, decide_eq_true_eq] at h
  obtain ⟨⟨⟨⟨⟨hk, hz⟩, hd⟩, hs⟩, hc⟩, hn⟩ := h
  subst hk; subst hz
  have dr := field_range hd
  have sr := field_range hs
  obtain rfl := fld0 hc
  obtain rfl : n = 0 := of_decide_eq_true hn
  have he : encF ⟨12, d, s, 0, 0, 0⟩ = byteOf (rexN true s d) :: 49 :: byteOf (twoN s d) :: [] := rfl
  have hL : (encF ⟨12, d, s, 0, 0, 0⟩).length = 3 := by
    rw [he]
    rfl
  rw [hL, he]
  show insR (byteOf (rexN true s d) :: 49 :: byteOf (twoN s d) :: tail : List UInt8) rd0 = _
  generalize hE : (byteOf (rexN true s d) :: 49 :: byteOf (twoN s d) :: tail : List UInt8) = bs
  have hl : 3 ≤ bs.length := by rw [← hE]; simp only [List.length_cons]; omega
  obtain ⟨t1, t2⟩ := two_at (bs := bs) (k := 2) (w := 1) sr dr (by omega) (by rw [← hE]; exact twob)
  have hr := ins_rex (bs := bs) (w := 1) (b := true) rfl sr dr (by omega) (by rw [← hE]; exact rexb sr dr)
  rw [hr]
  have b1 : byteAt bs 1 = 49 := (by rw [← hE]; exact rfl)
  rw [b1]
  refine (show prefIn bs (⟨1, s / 8 * 8, d / 8 * 8⟩ : Rx) 49 (R0 2) = (⟨12, (twoV bs (⟨1, s / 8 * 8, d / 8 * 8⟩ : Rx) (R0 2)).2, (twoV bs (⟨1, s / 8 * 8, d / 8 * 8⟩ : Rx) (R0 2)).1, 0, 0, 0⟩, twoD bs (R0 2)) from rfl).trans ?_
  rw [t1, t2]
theorem back17 {d s c z n k : Int} (h : fitsF ⟨13, 0, 0, true, 1, [57], 3, 0, 2, 1, 0, 0⟩ ⟨k, d, s, c, z, n⟩ = true) (hI : I64 n) (tail : List UInt8) : insR (encF ⟨k, d, s, c, z, n⟩ ++ tail) rd0 = (⟨k, d, s, c, z, n⟩, R0 (encF ⟨k, d, s, c, z, n⟩).length) := by
  simp only [fitsF, Bool.and_eq_true, decide_eq_true_eq] at h
  obtain ⟨⟨⟨⟨⟨hk, hz⟩, hd⟩, hs⟩, hc⟩, hn⟩ := h
  subst hk; subst hz
  have dr := field_range hd
  have sr := field_range hs
  obtain rfl := fld0 hc
  obtain rfl : n = 0 := of_decide_eq_true hn
  have he : encF ⟨13, d, s, 0, 0, 0⟩ = byteOf (rexN true s d) :: 57 :: byteOf (twoN s d) :: [] := rfl
  have hL : (encF ⟨13, d, s, 0, 0, 0⟩).length = 3 := by
    rw [he]
    rfl
  rw [hL, he]
  show insR (byteOf (rexN true s d) :: 57 :: byteOf (twoN s d) :: tail : List UInt8) rd0 = _
  generalize hE : (byteOf (rexN true s d) :: 57 :: byteOf (twoN s d) :: tail : List UInt8) = bs
  have hl : 3 ≤ bs.length := by rw [← hE]; simp only [List.length_cons]; omega
  obtain ⟨t1, t2⟩ := two_at (bs := bs) (k := 2) (w := 1) sr dr (by omega) (by rw [← hE]; exact twob)
  have hr := ins_rex (bs := bs) (w := 1) (b := true) rfl sr dr (by omega) (by rw [← hE]; exact rexb sr dr)
  rw [hr]
  have b1 : byteAt bs 1 = 57 := (by rw [← hE]; exact rfl)
  rw [b1]
  refine (show prefIn bs (⟨1, s / 8 * 8, d / 8 * 8⟩ : Rx) 57 (R0 2) = (⟨13, (twoV bs (⟨1, s / 8 * 8, d / 8 * 8⟩ : Rx) (R0 2)).2, (twoV bs (⟨1, s / 8 * 8, d / 8 * 8⟩ : Rx) (R0 2)).1, 0, 0, 0⟩, twoD bs (R0 2)) from rfl).trans ?_
  rw [t1, t2]
theorem back18 {d s c z n k : Int} (h : fitsF ⟨14, 0, 0, true, 1, [133], 3, 0, 2, 1, 0, 0⟩ ⟨k, d, s, c, z, n⟩ = true) (hI : I64 n) (tail : List UInt8) : insR (encF ⟨k, d, s, c, z, n⟩ ++ tail) rd0 = (⟨k, d, s, c, z, n⟩, R0 (encF ⟨k, d, s, c, z, n⟩).length) := by
  simp only [fitsF, Bool.and_eq_true, decide_eq_true_eq] at h
  obtain ⟨⟨⟨⟨⟨hk, hz⟩, hd⟩, hs⟩, hc⟩, hn⟩ := h
  subst hk; subst hz
  have dr := field_range hd
  have sr := field_range hs
  obtain rfl := fld0 hc
  obtain rfl : n = 0 := of_decide_eq_true hn
  have he : encF ⟨14, d, s, 0, 0, 0⟩ = byteOf (rexN true s d) :: 133 :: byteOf (twoN s d) :: [] := rfl
  have hL : (encF ⟨14, d, s, 0, 0, 0⟩).length = 3 := by
    rw [he]
    rfl
  rw [hL, he]
  show insR (byteOf (rexN true s d) :: 133 :: byteOf (twoN s d) :: tail : List UInt8) rd0 = _
  generalize hE : (byteOf (rexN true s d) :: 133 :: byteOf (twoN s d) :: tail : List UInt8) = bs
  have hl : 3 ≤ bs.length := by rw [← hE]; simp only [List.length_cons]; omega
  obtain ⟨t1, t2⟩ := two_at (bs := bs) (k := 2) (w := 1) sr dr (by omega) (by rw [← hE]; exact twob)
  have hr := ins_rex (bs := bs) (w := 1) (b := true) rfl sr dr (by omega) (by rw [← hE]; exact rexb sr dr)
  rw [hr]
  have b1 : byteAt bs 1 = 133 := (by rw [← hE]; exact rfl)
  rw [b1]
  refine (show prefIn bs (⟨1, s / 8 * 8, d / 8 * 8⟩ : Rx) 133 (R0 2) = (⟨14, (twoV bs (⟨1, s / 8 * 8, d / 8 * 8⟩ : Rx) (R0 2)).2, (twoV bs (⟨1, s / 8 * 8, d / 8 * 8⟩ : Rx) (R0 2)).1, 0, 0, 0⟩, twoD bs (R0 2)) from rfl).trans ?_
  rw [t1, t2]
theorem back19 {d s c z n k : Int} (h : fitsF ⟨15, 0, 0, true, 1, [129], 3, 0, 2, 0, 0, 6⟩ ⟨k, d, s, c, z, n⟩ = true) (hI : I64 n) (tail : List UInt8) : insR (encF ⟨k, d, s, c, z, n⟩ ++ tail) rd0 = (⟨k, d, s, c, z, n⟩, R0 (encF ⟨k, d, s, c, z, n⟩).length) := by
  simp only [fitsF, Bool.and_eq_true, decide_eq_true_eq] at h
  obtain ⟨⟨⟨⟨⟨hk, hz⟩, hd⟩, hs⟩, hc⟩, hn⟩ := h
  subst hk; subst hz
  have dr := field_range hd
  obtain rfl := fld0 hs
  obtain rfl := fld0 hc
  have hn : smallF n = true := hn
  have hg : sgn 4 (n % 256 ^ 4) = n := sgn4 hn
  have he : encF ⟨15, d, 0, 0, 0, n⟩ = byteOf (rexN true 0 d) :: 129 :: byteOf (twoN 0 d) :: immF n 4 := rfl
  have hL : (encF ⟨15, d, 0, 0, 0, n⟩).length = 3 + 4 := by
    rw [he]
    show (immF n 4).length + 3 = _
    rw [imm_len]
  rw [hL, he]
  show insR (byteOf (rexN true 0 d) :: 129 :: byteOf (twoN 0 d) :: (immF n 4 ++ tail) : List UInt8) rd0 = _
  generalize hE : (byteOf (rexN true 0 d) :: 129 :: byteOf (twoN 0 d) :: (immF n 4 ++ tail) : List UInt8) = bs
  have hl : 3 ≤ bs.length := by rw [← hE]; simp only [List.length_cons]; omega
  obtain ⟨i1, i2⟩ := imm_v (pre := [byteOf (rexN true 0 d), 129, byteOf (twoN 0 d)]) (rest := tail) (m := 4) hg
  rw [show [byteOf (rexN true 0 d), 129, byteOf (twoN 0 d)] ++ (leBytes 4 n ++ tail) = bs from hE] at i1 i2
  rw [show ([byteOf (rexN true 0 d), 129, byteOf (twoN 0 d)] : List UInt8).length = 3 from rfl] at i1 i2
  have o1 : oneV bs (⟨1, 0 / 8 * 8, d / 8 * 8⟩ : Rx) (R0 2) = (0, d) := (one_at (bs := bs) (k := 2) (w := 1) (g := 0) (q := d) ⟨by decide, by decide⟩ dr (by omega) (by rw [← hE]; exact twob)).1
  have o2 : oneD bs (⟨1, 0 / 8 * 8, d / 8 * 8⟩ : Rx) (R0 2) = R0 3 := (one_at (bs := bs) (k := 2) (w := 1) (g := 0) (q := d) ⟨by decide, by decide⟩ dr (by omega) (by rw [← hE]; exact twob)).2
  have hr := ins_rex (bs := bs) (w := 1) (b := true) rfl ⟨Int.le_refl (0 : Int), show (0 : Int) ≤ 15 by decide⟩ dr (by omega) (by rw [← hE]; exact rexb ⟨Int.le_refl (0 : Int), show (0 : Int) ≤ 15 by decide⟩ dr)
  rw [hr]
  have b1 : byteAt bs 1 = 129 := (by rw [← hE]; exact rfl)
  rw [b1]
  have hN : numD1 bs (⟨1, 0 / 8 * 8, d / 8 * 8⟩ : Rx) 129 (R0 2) = R0 3 := by rw [numD1, o1, o2]; rfl
  refine (show prefIn bs (⟨1, 0 / 8 * 8, d / 8 * 8⟩ : Rx) 129 (R0 2) = numberedR bs (⟨1, 0 / 8 * 8, d / 8 * 8⟩ : Rx) 129 (R0 2) from rfl).trans ?_
  rw [numberedR, if_pos rfl, hN, o1, i1, i2]
  rfl
theorem back20 {d s c z n k : Int} (h : fitsF ⟨16, 0, 0, true, 1, [129], 3, 1, 2, 0, 0, 6⟩ ⟨k, d, s, c, z, n⟩ = true) (hI : I64 n) (tail : List UInt8) : insR (encF ⟨k, d, s, c, z, n⟩ ++ tail) rd0 = (⟨k, d, s, c, z, n⟩, R0 (encF ⟨k, d, s, c, z, n⟩).length) := by
  simp only [fitsF, Bool.and_eq_true, decide_eq_true_eq] at h
  obtain ⟨⟨⟨⟨⟨hk, hz⟩, hd⟩, hs⟩, hc⟩, hn⟩ := h
  subst hk; subst hz
  have dr := field_range hd
  obtain rfl := fld0 hs
  obtain rfl := fld0 hc
  have hn : smallF n = true := hn
  have hg : sgn 4 (n % 256 ^ 4) = n := sgn4 hn
  have he : encF ⟨16, d, 0, 0, 0, n⟩ = byteOf (rexN true 0 d) :: 129 :: byteOf (twoN 1 d) :: immF n 4 := rfl
  have hL : (encF ⟨16, d, 0, 0, 0, n⟩).length = 3 + 4 := by
    rw [he]
    show (immF n 4).length + 3 = _
    rw [imm_len]
  rw [hL, he]
  show insR (byteOf (rexN true 0 d) :: 129 :: byteOf (twoN 1 d) :: (immF n 4 ++ tail) : List UInt8) rd0 = _
  generalize hE : (byteOf (rexN true 0 d) :: 129 :: byteOf (twoN 1 d) :: (immF n 4 ++ tail) : List UInt8) = bs
  have hl : 3 ≤ bs.length := by rw [← hE]; simp only [List.length_cons]; omega
  obtain ⟨i1, i2⟩ := imm_v (pre := [byteOf (rexN true 0 d), 129, byteOf (twoN 1 d)]) (rest := tail) (m := 4) hg
  rw [show [byteOf (rexN true 0 d), 129, byteOf (twoN 1 d)] ++ (leBytes 4 n ++ tail) = bs from hE] at i1 i2
  rw [show ([byteOf (rexN true 0 d), 129, byteOf (twoN 1 d)] : List UInt8).length = 3 from rfl] at i1 i2
  have o1 : oneV bs (⟨1, 0 / 8 * 8, d / 8 * 8⟩ : Rx) (R0 2) = (1, d) := (one_at (bs := bs) (k := 2) (w := 1) (g := 1) (q := d) ⟨by decide, by decide⟩ dr (by omega) (by rw [← hE]; exact twob)).1
  have o2 : oneD bs (⟨1, 0 / 8 * 8, d / 8 * 8⟩ : Rx) (R0 2) = R0 3 := (one_at (bs := bs) (k := 2) (w := 1) (g := 1) (q := d) ⟨by decide, by decide⟩ dr (by omega) (by rw [← hE]; exact twob)).2
  have hr := ins_rex (bs := bs) (w := 1) (b := true) rfl ⟨Int.le_refl (0 : Int), show (0 : Int) ≤ 15 by decide⟩ dr (by omega) (by rw [← hE]; exact rexb ⟨Int.le_refl (0 : Int), show (0 : Int) ≤ 15 by decide⟩ dr)
  rw [hr]
  have b1 : byteAt bs 1 = 129 := (by rw [← hE]; exact rfl)
  rw [b1]
  have hN : numD1 bs (⟨1, 0 / 8 * 8, d / 8 * 8⟩ : Rx) 129 (R0 2) = R0 3 := by rw [numD1, o1, o2]; rfl
  refine (show prefIn bs (⟨1, 0 / 8 * 8, d / 8 * 8⟩ : Rx) 129 (R0 2) = numberedR bs (⟨1, 0 / 8 * 8, d / 8 * 8⟩ : Rx) 129 (R0 2) from rfl).trans ?_
  rw [numberedR, if_pos rfl, hN, o1, i1, i2]
  rfl
theorem back21 {d s c z n k : Int} (h : fitsF ⟨17, 0, 0, true, 1, [129], 3, 4, 2, 0, 0, 6⟩ ⟨k, d, s, c, z, n⟩ = true) (hI : I64 n) (tail : List UInt8) : insR (encF ⟨k, d, s, c, z, n⟩ ++ tail) rd0 = (⟨k, d, s, c, z, n⟩, R0 (encF ⟨k, d, s, c, z, n⟩).length) := by
  simp only [fitsF, Bool.and_eq_true, decide_eq_true_eq] at h
  obtain ⟨⟨⟨⟨⟨hk, hz⟩, hd⟩, hs⟩, hc⟩, hn⟩ := h
  subst hk; subst hz
  have dr := field_range hd
  obtain rfl := fld0 hs
  obtain rfl := fld0 hc
  have hn : smallF n = true := hn
  have hg : sgn 4 (n % 256 ^ 4) = n := sgn4 hn
  have he : encF ⟨17, d, 0, 0, 0, n⟩ = byteOf (rexN true 0 d) :: 129 :: byteOf (twoN 4 d) :: immF n 4 := rfl
  have hL : (encF ⟨17, d, 0, 0, 0, n⟩).length = 3 + 4 := by
    rw [he]
    show (immF n 4).length + 3 = _
    rw [imm_len]
  rw [hL, he]
  show insR (byteOf (rexN true 0 d) :: 129 :: byteOf (twoN 4 d) :: (immF n 4 ++ tail) : List UInt8) rd0 = _
  generalize hE : (byteOf (rexN true 0 d) :: 129 :: byteOf (twoN 4 d) :: (immF n 4 ++ tail) : List UInt8) = bs
  have hl : 3 ≤ bs.length := by rw [← hE]; simp only [List.length_cons]; omega
  obtain ⟨i1, i2⟩ := imm_v (pre := [byteOf (rexN true 0 d), 129, byteOf (twoN 4 d)]) (rest := tail) (m := 4) hg
  rw [show [byteOf (rexN true 0 d), 129, byteOf (twoN 4 d)] ++ (leBytes 4 n ++ tail) = bs from hE] at i1 i2
  rw [show ([byteOf (rexN true 0 d), 129, byteOf (twoN 4 d)] : List UInt8).length = 3 from rfl] at i1 i2
  have o1 : oneV bs (⟨1, 0 / 8 * 8, d / 8 * 8⟩ : Rx) (R0 2) = (4, d) := (one_at (bs := bs) (k := 2) (w := 1) (g := 4) (q := d) ⟨by decide, by decide⟩ dr (by omega) (by rw [← hE]; exact twob)).1
  have o2 : oneD bs (⟨1, 0 / 8 * 8, d / 8 * 8⟩ : Rx) (R0 2) = R0 3 := (one_at (bs := bs) (k := 2) (w := 1) (g := 4) (q := d) ⟨by decide, by decide⟩ dr (by omega) (by rw [← hE]; exact twob)).2
  have hr := ins_rex (bs := bs) (w := 1) (b := true) rfl ⟨Int.le_refl (0 : Int), show (0 : Int) ≤ 15 by decide⟩ dr (by omega) (by rw [← hE]; exact rexb ⟨Int.le_refl (0 : Int), show (0 : Int) ≤ 15 by decide⟩ dr)
  rw [hr]
  have b1 : byteAt bs 1 = 129 := (by rw [← hE]; exact rfl)
  rw [b1]
  have hN : numD1 bs (⟨1, 0 / 8 * 8, d / 8 * 8⟩ : Rx) 129 (R0 2) = R0 3 := by rw [numD1, o1, o2]; rfl
  refine (show prefIn bs (⟨1, 0 / 8 * 8, d / 8 * 8⟩ : Rx) 129 (R0 2) = numberedR bs (⟨1, 0 / 8 * 8, d / 8 * 8⟩ : Rx) 129 (R0 2) from rfl).trans ?_
  rw [numberedR, if_pos rfl, hN, o1, i1, i2]
  rfl
theorem back22 {d s c z n k : Int} (h : fitsF ⟨18, 0, 0, true, 1, [129], 3, 5, 2, 0, 0, 6⟩ ⟨k, d, s, c, z, n⟩ = true) (hI : I64 n) (tail : List UInt8) : insR (encF ⟨k, d, s, c, z, n⟩ ++ tail) rd0 = (⟨k, d, s, c, z, n⟩, R0 (encF ⟨k, d, s, c, z, n⟩).length) := by
  simp only [fitsF, Bool.and_eq_true, decide_eq_true_eq] at h
  obtain ⟨⟨⟨⟨⟨hk, hz⟩, hd⟩, hs⟩, hc⟩, hn⟩ := h
  subst hk; subst hz
  have dr := field_range hd
  obtain rfl := fld0 hs
  obtain rfl := fld0 hc
  have hn : smallF n = true := hn
  have hg : sgn 4 (n % 256 ^ 4) = n := sgn4 hn
  have he : encF ⟨18, d, 0, 0, 0, n⟩ = byteOf (rexN true 0 d) :: 129 :: byteOf (twoN 5 d) :: immF n 4 := rfl
  have hL : (encF ⟨18, d, 0, 0, 0, n⟩).length = 3 + 4 := by
    rw [he]
    show (immF n 4).length + 3 = _
    rw [imm_len]
  rw [hL, he]
  show insR (byteOf (rexN true 0 d) :: 129 :: byteOf (twoN 5 d) :: (immF n 4 ++ tail) : List UInt8) rd0 = _
  generalize hE : (byteOf (rexN true 0 d) :: 129 :: byteOf (twoN 5 d) :: (immF n 4 ++ tail) : List UInt8) = bs
  have hl : 3 ≤ bs.length := by rw [← hE]; simp only [List.length_cons]; omega
  obtain ⟨i1, i2⟩ := imm_v (pre := [byteOf (rexN true 0 d), 129, byteOf (twoN 5 d)]) (rest := tail) (m := 4) hg
  rw [show [byteOf (rexN true 0 d), 129, byteOf (twoN 5 d)] ++ (leBytes 4 n ++ tail) = bs from hE] at i1 i2
  rw [show ([byteOf (rexN true 0 d), 129, byteOf (twoN 5 d)] : List UInt8).length = 3 from rfl] at i1 i2
  have o1 : oneV bs (⟨1, 0 / 8 * 8, d / 8 * 8⟩ : Rx) (R0 2) = (5, d) := (one_at (bs := bs) (k := 2) (w := 1) (g := 5) (q := d) ⟨by decide, by decide⟩ dr (by omega) (by rw [← hE]; exact twob)).1
  have o2 : oneD bs (⟨1, 0 / 8 * 8, d / 8 * 8⟩ : Rx) (R0 2) = R0 3 := (one_at (bs := bs) (k := 2) (w := 1) (g := 5) (q := d) ⟨by decide, by decide⟩ dr (by omega) (by rw [← hE]; exact twob)).2
  have hr := ins_rex (bs := bs) (w := 1) (b := true) rfl ⟨Int.le_refl (0 : Int), show (0 : Int) ≤ 15 by decide⟩ dr (by omega) (by rw [← hE]; exact rexb ⟨Int.le_refl (0 : Int), show (0 : Int) ≤ 15 by decide⟩ dr)
  rw [hr]
  have b1 : byteAt bs 1 = 129 := (by rw [← hE]; exact rfl)
  rw [b1]
  have hN : numD1 bs (⟨1, 0 / 8 * 8, d / 8 * 8⟩ : Rx) 129 (R0 2) = R0 3 := by rw [numD1, o1, o2]; rfl
  refine (show prefIn bs (⟨1, 0 / 8 * 8, d / 8 * 8⟩ : Rx) 129 (R0 2) = numberedR bs (⟨1, 0 / 8 * 8, d / 8 * 8⟩ : Rx) 129 (R0 2) from rfl).trans ?_
  rw [numberedR, if_pos rfl, hN, o1, i1, i2]
  rfl
theorem back23 {d s c z n k : Int} (h : fitsF ⟨19, 0, 0, true, 1, [129], 3, 6, 2, 0, 0, 6⟩ ⟨k, d, s, c, z, n⟩ = true) (hI : I64 n) (tail : List UInt8) : insR (encF ⟨k, d, s, c, z, n⟩ ++ tail) rd0 = (⟨k, d, s, c, z, n⟩, R0 (encF ⟨k, d, s, c, z, n⟩).length) := by
  simp only [fitsF, Bool.and_eq_true, decide_eq_true_eq] at h
  obtain ⟨⟨⟨⟨⟨hk, hz⟩, hd⟩, hs⟩, hc⟩, hn⟩ := h
  subst hk; subst hz
  have dr := field_range hd
  obtain rfl := fld0 hs
  obtain rfl := fld0 hc
  have hn : smallF n = true := hn
  have hg : sgn 4 (n % 256 ^ 4) = n := sgn4 hn
  have he : encF ⟨19, d, 0, 0, 0, n⟩ = byteOf (rexN true 0 d) :: 129 :: byteOf (twoN 6 d) :: immF n 4 := rfl
  have hL : (encF ⟨19, d, 0, 0, 0, n⟩).length = 3 + 4 := by
    rw [he]
    show (immF n 4).length + 3 = _
    rw [imm_len]
  rw [hL, he]
  show insR (byteOf (rexN true 0 d) :: 129 :: byteOf (twoN 6 d) :: (immF n 4 ++ tail) : List UInt8) rd0 = _
  generalize hE : (byteOf (rexN true 0 d) :: 129 :: byteOf (twoN 6 d) :: (immF n 4 ++ tail) : List UInt8) = bs
  have hl : 3 ≤ bs.length := by rw [← hE]; simp only [List.length_cons]; omega
  obtain ⟨i1, i2⟩ := imm_v (pre := [byteOf (rexN true 0 d), 129, byteOf (twoN 6 d)]) (rest := tail) (m := 4) hg
  rw [show [byteOf (rexN true 0 d), 129, byteOf (twoN 6 d)] ++ (leBytes 4 n ++ tail) = bs from hE] at i1 i2
  rw [show ([byteOf (rexN true 0 d), 129, byteOf (twoN 6 d)] : List UInt8).length = 3 from rfl] at i1 i2
  have o1 : oneV bs (⟨1, 0 / 8 * 8, d / 8 * 8⟩ : Rx) (R0 2) = (6, d) := (one_at (bs := bs) (k := 2) (w := 1) (g := 6) (q := d) ⟨by decide, by decide⟩ dr (by omega) (by rw [← hE]; exact twob)).1
  have o2 : oneD bs (⟨1, 0 / 8 * 8, d / 8 * 8⟩ : Rx) (R0 2) = R0 3 := (one_at (bs := bs) (k := 2) (w := 1) (g := 6) (q := d) ⟨by decide, by decide⟩ dr (by omega) (by rw [← hE]; exact twob)).2
  have hr := ins_rex (bs := bs) (w := 1) (b := true) rfl ⟨Int.le_refl (0 : Int), show (0 : Int) ≤ 15 by decide⟩ dr (by omega) (by rw [← hE]; exact rexb ⟨Int.le_refl (0 : Int), show (0 : Int) ≤ 15 by decide⟩ dr)
  rw [hr]
  have b1 : byteAt bs 1 = 129 := (by rw [← hE]; exact rfl)
  rw [b1]
  have hN : numD1 bs (⟨1, 0 / 8 * 8, d / 8 * 8⟩ : Rx) 129 (R0 2) = R0 3 := by rw [numD1, o1, o2]; rfl
  refine (show prefIn bs (⟨1, 0 / 8 * 8, d / 8 * 8⟩ : Rx) 129 (R0 2) = numberedR bs (⟨1, 0 / 8 * 8, d / 8 * 8⟩ : Rx) 129 (R0 2) from rfl).trans ?_
  rw [numberedR, if_pos rfl, hN, o1, i1, i2]
  rfl
theorem back24 {d s c z n k : Int} (h : fitsF ⟨20, 0, 0, true, 1, [129], 3, 7, 2, 0, 0, 6⟩ ⟨k, d, s, c, z, n⟩ = true) (hI : I64 n) (tail : List UInt8) : insR (encF ⟨k, d, s, c, z, n⟩ ++ tail) rd0 = (⟨k, d, s, c, z, n⟩, R0 (encF ⟨k, d, s, c, z, n⟩).length) := by
  simp only [fitsF, Bool.and_eq_true, decide_eq_true_eq] at h
  obtain ⟨⟨⟨⟨⟨hk, hz⟩, hd⟩, hs⟩, hc⟩, hn⟩ := h
  subst hk; subst hz
  have dr := field_range hd
  obtain rfl := fld0 hs
  obtain rfl := fld0 hc
  have hn : smallF n = true := hn
  have hg : sgn 4 (n % 256 ^ 4) = n := sgn4 hn
  have he : encF ⟨20, d, 0, 0, 0, n⟩ = byteOf (rexN true 0 d) :: 129 :: byteOf (twoN 7 d) :: immF n 4 := rfl
  have hL : (encF ⟨20, d, 0, 0, 0, n⟩).length = 3 + 4 := by
    rw [he]
    show (immF n 4).length + 3 = _
    rw [imm_len]
  rw [hL, he]
  show insR (byteOf (rexN true 0 d) :: 129 :: byteOf (twoN 7 d) :: (immF n 4 ++ tail) : List UInt8) rd0 = _
  generalize hE : (byteOf (rexN true 0 d) :: 129 :: byteOf (twoN 7 d) :: (immF n 4 ++ tail) : List UInt8) = bs
  have hl : 3 ≤ bs.length := by rw [← hE]; simp only [List.length_cons]; omega
  obtain ⟨i1, i2⟩ := imm_v (pre := [byteOf (rexN true 0 d), 129, byteOf (twoN 7 d)]) (rest := tail) (m := 4) hg
  rw [show [byteOf (rexN true 0 d), 129, byteOf (twoN 7 d)] ++ (leBytes 4 n ++ tail) = bs from hE] at i1 i2
  rw [show ([byteOf (rexN true 0 d), 129, byteOf (twoN 7 d)] : List UInt8).length = 3 from rfl] at i1 i2
  have o1 : oneV bs (⟨1, 0 / 8 * 8, d / 8 * 8⟩ : Rx) (R0 2) = (7, d) := (one_at (bs := bs) (k := 2) (w := 1) (g := 7) (q := d) ⟨by decide, by decide⟩ dr (by omega) (by rw [← hE]; exact twob)).1
  have o2 : oneD bs (⟨1, 0 / 8 * 8, d / 8 * 8⟩ : Rx) (R0 2) = R0 3 := (one_at (bs := bs) (k := 2) (w := 1) (g := 7) (q := d) ⟨by decide, by decide⟩ dr (by omega) (by rw [← hE]; exact twob)).2
  have hr := ins_rex (bs := bs) (w := 1) (b := true) rfl ⟨Int.le_refl (0 : Int), show (0 : Int) ≤ 15 by decide⟩ dr (by omega) (by rw [← hE]; exact rexb ⟨Int.le_refl (0 : Int), show (0 : Int) ≤ 15 by decide⟩ dr)
  rw [hr]
  have b1 : byteAt bs 1 = 129 := (by rw [← hE]; exact rfl)
  rw [b1]
  have hN : numD1 bs (⟨1, 0 / 8 * 8, d / 8 * 8⟩ : Rx) 129 (R0 2) = R0 3 := by rw [numD1, o1, o2]; rfl
  refine (show prefIn bs (⟨1, 0 / 8 * 8, d / 8 * 8⟩ : Rx) 129 (R0 2) = numberedR bs (⟨1, 0 / 8 * 8, d / 8 * 8⟩ : Rx) 129 (R0 2) from rfl).trans ?_
  rw [numberedR, if_pos rfl, hN, o1, i1, i2]
  rfl
theorem back25 {d s c z n k : Int} (h : fitsF ⟨21, 0, 0, true, 1, [15, 175], 3, 0, 1, 2, 0, 0⟩ ⟨k, d, s, c, z, n⟩ = true) (hI : I64 n) (tail : List UInt8) : insR (encF ⟨k, d, s, c, z, n⟩ ++ tail) rd0 = (⟨k, d, s, c, z, n⟩, R0 (encF ⟨k, d, s, c, z, n⟩).length) := by
  simp only [fitsF, Bool.and_eq_true, decide_eq_true_eq] at h
  obtain ⟨⟨⟨⟨⟨hk, hz⟩, hd⟩, hs⟩, hc⟩, hn⟩ := h
  subst hk; subst hz
  have dr := field_range hd
  have sr := field_range hs
  obtain rfl := fld0 hc
  obtain rfl : n = 0 := of_decide_eq_true hn
  have he : encF ⟨21, d, s, 0, 0, 0⟩ = byteOf (rexN true d s) :: 15 :: 175 :: byteOf (twoN d s) :: [] := rfl
  have hL : (encF ⟨21, d, s, 0, 0, 0⟩).length = 4 := by
    rw [he]
    rfl
  rw [hL, he]
  show insR (byteOf (rexN true d s) :: 15 :: 175 :: byteOf (twoN d s) :: tail : List UInt8) rd0 = _
  generalize hE : (byteOf (rexN true d s) :: 15 :: 175 :: byteOf (twoN d s) :: tail : List UInt8) = bs
  have hl : 4 ≤ bs.length := by rw [← hE]; simp only [List.length_cons]; omega
  obtain ⟨t1, t2⟩ := two_at (bs := bs) (k := 3) (w := 1) dr sr (by omega) (by rw [← hE]; exact twob)
  have hr := ins_rex (bs := bs) (w := 1) (b := true) rfl dr sr (by omega) (by rw [← hE]; exact rexb dr sr)
  rw [hr]
  have b1 : byteAt bs 1 = 15 := (by rw [← hE]; exact rfl)
  rw [b1]
  refine (show prefIn bs (⟨1, d / 8 * 8, s / 8 * 8⟩ : Rx) 15 (R0 2) = farR bs (⟨1, d / 8 * 8, s / 8 * 8⟩ : Rx) (R0 2) from rfl).trans ?_
  rw [far_at (by exact .inl rfl) (by omega)]
  have b2 : byteAt bs 2 = 175 := (by rw [← hE]; exact rfl)
  rw [b2]
  refine (show farIn bs (⟨1, d / 8 * 8, s / 8 * 8⟩ : Rx) 175 (R0 3) = (⟨21, (twoV bs (⟨1, d / 8 * 8, s / 8 * 8⟩ : Rx) (R0 3)).1, (twoV bs (⟨1, d / 8 * 8, s / 8 * 8⟩ : Rx) (R0 3)).2, 0, 0, 0⟩, twoD bs (R0 3)) from rfl).trans ?_
  rw [t1, t2]
theorem back26 {d s c z n k : Int} (h : fitsF ⟨22, 0, 0, true, 1, [247], 3, 4, 2, 0, 0, 0⟩ ⟨k, d, s, c, z, n⟩ = true) (hI : I64 n) (tail : List UInt8) : insR (encF ⟨k, d, s, c, z, n⟩ ++ tail) rd0 = (⟨k, d, s, c, z, n⟩, R0 (encF ⟨k, d, s, c, z, n⟩).length) := by
  simp only [fitsF, Bool.and_eq_true, decide_eq_true_eq] at h
  obtain ⟨⟨⟨⟨⟨hk, hz⟩, hd⟩, hs⟩, hc⟩, hn⟩ := h
  subst hk; subst hz
  have dr := field_range hd
  obtain rfl := fld0 hs
  obtain rfl := fld0 hc
  obtain rfl : n = 0 := of_decide_eq_true hn
  have he : encF ⟨22, d, 0, 0, 0, 0⟩ = byteOf (rexN true 0 d) :: 247 :: byteOf (twoN 4 d) :: [] := rfl
  have hL : (encF ⟨22, d, 0, 0, 0, 0⟩).length = 3 := by
    rw [he]
    rfl
  rw [hL, he]
  show insR (byteOf (rexN true 0 d) :: 247 :: byteOf (twoN 4 d) :: tail : List UInt8) rd0 = _
  generalize hE : (byteOf (rexN true 0 d) :: 247 :: byteOf (twoN 4 d) :: tail : List UInt8) = bs
  have hl : 3 ≤ bs.length := by rw [← hE]; simp only [List.length_cons]; omega
  have o1 : oneV bs (⟨1, 0 / 8 * 8, d / 8 * 8⟩ : Rx) (R0 2) = (4, d) := (one_at (bs := bs) (k := 2) (w := 1) (g := 4) (q := d) ⟨by decide, by decide⟩ dr (by omega) (by rw [← hE]; exact twob)).1
  have o2 : oneD bs (⟨1, 0 / 8 * 8, d / 8 * 8⟩ : Rx) (R0 2) = R0 3 := (one_at (bs := bs) (k := 2) (w := 1) (g := 4) (q := d) ⟨by decide, by decide⟩ dr (by omega) (by rw [← hE]; exact twob)).2
  have hr := ins_rex (bs := bs) (w := 1) (b := true) rfl ⟨Int.le_refl (0 : Int), show (0 : Int) ≤ 15 by decide⟩ dr (by omega) (by rw [← hE]; exact rexb ⟨Int.le_refl (0 : Int), show (0 : Int) ≤ 15 by decide⟩ dr)
  rw [hr]
  have b1 : byteAt bs 1 = 247 := (by rw [← hE]; exact rfl)
  rw [b1]
  have hN : numD1 bs (⟨1, 0 / 8 * 8, d / 8 * 8⟩ : Rx) 247 (R0 2) = R0 3 := by rw [numD1, o1, o2]; rfl
  refine (show prefIn bs (⟨1, 0 / 8 * 8, d / 8 * 8⟩ : Rx) 247 (R0 2) = numberedR bs (⟨1, 0 / 8 * 8, d / 8 * 8⟩ : Rx) 247 (R0 2) from rfl).trans ?_
  rw [numberedR, if_neg (by decide), if_neg (by decide), hN, o1]
  rfl
theorem back27 {d s c z n k : Int} (h : fitsF ⟨23, 0, 0, true, 1, [247], 3, 6, 2, 0, 0, 0⟩ ⟨k, d, s, c, z, n⟩ = true) (hI : I64 n) (tail : List UInt8) : insR (encF ⟨k, d, s, c, z, n⟩ ++ tail) rd0 = (⟨k, d, s, c, z, n⟩, R0 (encF ⟨k, d, s, c, z, n⟩).length) := by
  simp only [fitsF, Bool.and_eq_true, decide_eq_true_eq] at h
  obtain ⟨⟨⟨⟨⟨hk, hz⟩, hd⟩, hs⟩, hc⟩, hn⟩ := h
  subst hk; subst hz
  have dr := field_range hd
  obtain rfl := fld0 hs
  obtain rfl := fld0 hc
  obtain rfl : n = 0 := of_decide_eq_true hn
  have he : encF ⟨23, d, 0, 0, 0, 0⟩ = byteOf (rexN true 0 d) :: 247 :: byteOf (twoN 6 d) :: [] := rfl
  have hL : (encF ⟨23, d, 0, 0, 0, 0⟩).length = 3 := by
    rw [he]
    rfl
  rw [hL, he]
  show insR (byteOf (rexN true 0 d) :: 247 :: byteOf (twoN 6 d) :: tail : List UInt8) rd0 = _
  generalize hE : (byteOf (rexN true 0 d) :: 247 :: byteOf (twoN 6 d) :: tail : List UInt8) = bs
  have hl : 3 ≤ bs.length := by rw [← hE]; simp only [List.length_cons]; omega
  have o1 : oneV bs (⟨1, 0 / 8 * 8, d / 8 * 8⟩ : Rx) (R0 2) = (6, d) := (one_at (bs := bs) (k := 2) (w := 1) (g := 6) (q := d) ⟨by decide, by decide⟩ dr (by omega) (by rw [← hE]; exact twob)).1
  have o2 : oneD bs (⟨1, 0 / 8 * 8, d / 8 * 8⟩ : Rx) (R0 2) = R0 3 := (one_at (bs := bs) (k := 2) (w := 1) (g := 6) (q := d) ⟨by decide, by decide⟩ dr (by omega) (by rw [← hE]; exact twob)).2
  have hr := ins_rex (bs := bs) (w := 1) (b := true) rfl ⟨Int.le_refl (0 : Int), show (0 : Int) ≤ 15 by decide⟩ dr (by omega) (by rw [← hE]; exact rexb ⟨Int.le_refl (0 : Int), show (0 : Int) ≤ 15 by decide⟩ dr)
  rw [hr]
  have b1 : byteAt bs 1 = 247 := (by rw [← hE]; exact rfl)
  rw [b1]
  have hN : numD1 bs (⟨1, 0 / 8 * 8, d / 8 * 8⟩ : Rx) 247 (R0 2) = R0 3 := by rw [numD1, o1, o2]; rfl
  refine (show prefIn bs (⟨1, 0 / 8 * 8, d / 8 * 8⟩ : Rx) 247 (R0 2) = numberedR bs (⟨1, 0 / 8 * 8, d / 8 * 8⟩ : Rx) 247 (R0 2) from rfl).trans ?_
  rw [numberedR, if_neg (by decide), if_neg (by decide), hN, o1]
  rfl
theorem back28 {d s c z n k : Int} (h : fitsF ⟨24, 0, 0, true, 1, [247], 3, 3, 2, 0, 0, 0⟩ ⟨k, d, s, c, z, n⟩ = true) (hI : I64 n) (tail : List UInt8) : insR (encF ⟨k, d, s, c, z, n⟩ ++ tail) rd0 = (⟨k, d, s, c, z, n⟩, R0 (encF ⟨k, d, s, c, z, n⟩).length) := by
  simp only [fitsF, Bool.and_eq_true, decide_eq_true_eq] at h
  obtain ⟨⟨⟨⟨⟨hk, hz⟩, hd⟩, hs⟩, hc⟩, hn⟩ := h
  subst hk; subst hz
  have dr := field_range hd
  obtain rfl := fld0 hs
  obtain rfl := fld0 hc
  obtain rfl : n = 0 := of_decide_eq_true hn
  have he : encF ⟨24, d, 0, 0, 0, 0⟩ = byteOf (rexN true 0 d) :: 247 :: byteOf (twoN 3 d) :: [] := rfl
  have hL : (encF ⟨24, d, 0, 0, 0, 0⟩).length = 3 := by
    rw [he]
    rfl
  rw [hL, he]
  show insR (byteOf (rexN true 0 d) :: 247 :: byteOf (twoN 3 d) :: tail : List UInt8) rd0 = _
  generalize hE : (byteOf (rexN true 0 d) :: 247 :: byteOf (twoN 3 d) :: tail : List UInt8) = bs
  have hl : 3 ≤ bs.length := by rw [← hE]; simp only [List.length_cons]; omega
  have o1 : oneV bs (⟨1, 0 / 8 * 8, d / 8 * 8⟩ : Rx) (R0 2) = (3, d) := (one_at (bs := bs) (k := 2) (w := 1) (g := 3) (q := d) ⟨by decide, by decide⟩ dr (by omega) (by rw [← hE]; exact twob)).1
  have o2 : oneD bs (⟨1, 0 / 8 * 8, d / 8 * 8⟩ : Rx) (R0 2) = R0 3 := (one_at (bs := bs) (k := 2) (w := 1) (g := 3) (q := d) ⟨by decide, by decide⟩ dr (by omega) (by rw [← hE]; exact twob)).2
  have hr := ins_rex (bs := bs) (w := 1) (b := true) rfl ⟨Int.le_refl (0 : Int), show (0 : Int) ≤ 15 by decide⟩ dr (by omega) (by rw [← hE]; exact rexb ⟨Int.le_refl (0 : Int), show (0 : Int) ≤ 15 by decide⟩ dr)
  rw [hr]
  have b1 : byteAt bs 1 = 247 := (by rw [← hE]; exact rfl)
  rw [b1]
  have hN : numD1 bs (⟨1, 0 / 8 * 8, d / 8 * 8⟩ : Rx) 247 (R0 2) = R0 3 := by rw [numD1, o1, o2]; rfl
  refine (show prefIn bs (⟨1, 0 / 8 * 8, d / 8 * 8⟩ : Rx) 247 (R0 2) = numberedR bs (⟨1, 0 / 8 * 8, d / 8 * 8⟩ : Rx) 247 (R0 2) from rfl).trans ?_
  rw [numberedR, if_neg (by decide), if_neg (by decide), hN, o1]
  rfl
theorem back29 {d s c z n k : Int} (h : fitsF ⟨25, 0, 0, true, 1, [247], 3, 2, 2, 0, 0, 0⟩ ⟨k, d, s, c, z, n⟩ = true) (hI : I64 n) (tail : List UInt8) : insR (encF ⟨k, d, s, c, z, n⟩ ++ tail) rd0 = (⟨k, d, s, c, z, n⟩, R0 (encF ⟨k, d, s, c, z, n⟩).length) := by
  simp only [fitsF, Bool.and_eq_true, decide_eq_true_eq] at h
  obtain ⟨⟨⟨⟨⟨hk, hz⟩, hd⟩, hs⟩, hc⟩, hn⟩ := h
  subst hk; subst hz
  have dr := field_range hd
  obtain rfl := fld0 hs
  obtain rfl := fld0 hc
  obtain rfl : n = 0 := of_decide_eq_true hn
  have he : encF ⟨25, d, 0, 0, 0, 0⟩ = byteOf (rexN true 0 d) :: 247 :: byteOf (twoN 2 d) :: [] := rfl
  have hL : (encF ⟨25, d, 0, 0, 0, 0⟩).length = 3 := by
    rw [he]
    rfl
  rw [hL, he]
  show insR (byteOf (rexN true 0 d) :: 247 :: byteOf (twoN 2 d) :: tail : List UInt8) rd0 = _
  generalize hE : (byteOf (rexN true 0 d) :: 247 :: byteOf (twoN 2 d) :: tail : List UInt8) = bs
  have hl : 3 ≤ bs.length := by rw [← hE]; simp only [List.length_cons]; omega
  have o1 : oneV bs (⟨1, 0 / 8 * 8, d / 8 * 8⟩ : Rx) (R0 2) = (2, d) := (one_at (bs := bs) (k := 2) (w := 1) (g := 2) (q := d) ⟨by decide, by decide⟩ dr (by omega) (by rw [← hE]; exact twob)).1
  have o2 : oneD bs (⟨1, 0 / 8 * 8, d / 8 * 8⟩ : Rx) (R0 2) = R0 3 := (one_at (bs := bs) (k := 2) (w := 1) (g := 2) (q := d) ⟨by decide, by decide⟩ dr (by omega) (by rw [← hE]; exact twob)).2
  have hr := ins_rex (bs := bs) (w := 1) (b := true) rfl ⟨Int.le_refl (0 : Int), show (0 : Int) ≤ 15 by decide⟩ dr (by omega) (by rw [← hE]; exact rexb ⟨Int.le_refl (0 : Int), show (0 : Int) ≤ 15 by decide⟩ dr)
  rw [hr]
  have b1 : byteAt bs 1 = 247 := (by rw [← hE]; exact rfl)
  rw [b1]
  have hN : numD1 bs (⟨1, 0 / 8 * 8, d / 8 * 8⟩ : Rx) 247 (R0 2) = R0 3 := by rw [numD1, o1, o2]; rfl
  refine (show prefIn bs (⟨1, 0 / 8 * 8, d / 8 * 8⟩ : Rx) 247 (R0 2) = numberedR bs (⟨1, 0 / 8 * 8, d / 8 * 8⟩ : Rx) 247 (R0 2) from rfl).trans ?_
  rw [numberedR, if_neg (by decide), if_neg (by decide), hN, o1]
  rfl
theorem back30 {d s c z n k : Int} (h : fitsF ⟨26, 0, 0, true, 1, [211], 3, 4, 2, 0, 0, 0⟩ ⟨k, d, s, c, z, n⟩ = true) (hI : I64 n) (tail : List UInt8) : insR (encF ⟨k, d, s, c, z, n⟩ ++ tail) rd0 = (⟨k, d, s, c, z, n⟩, R0 (encF ⟨k, d, s, c, z, n⟩).length) := by
  simp only [fitsF, Bool.and_eq_true, decide_eq_true_eq] at h
  obtain ⟨⟨⟨⟨⟨hk, hz⟩, hd⟩, hs⟩, hc⟩, hn⟩ := h
  subst hk; subst hz
  have dr := field_range hd
  obtain rfl := fld0 hs
  obtain rfl := fld0 hc
  obtain rfl : n = 0 := of_decide_eq_true hn
  have he : encF ⟨26, d, 0, 0, 0, 0⟩ = byteOf (rexN true 0 d) :: 211 :: byteOf (twoN 4 d) :: [] := rfl
  have hL : (encF ⟨26, d, 0, 0, 0, 0⟩).length = 3 := by
    rw [he]
    rfl
  rw [hL, he]
  show insR (byteOf (rexN true 0 d) :: 211 :: byteOf (twoN 4 d) :: tail : List UInt8) rd0 = _
  generalize hE : (byteOf (rexN true 0 d) :: 211 :: byteOf (twoN 4 d) :: tail : List UInt8) = bs
  have hl : 3 ≤ bs.length := by rw [← hE]; simp only [List.length_cons]; omega
  have o1 : oneV bs (⟨1, 0 / 8 * 8, d / 8 * 8⟩ : Rx) (R0 2) = (4, d) := (one_at (bs := bs) (k := 2) (w := 1) (g := 4) (q := d) ⟨by decide, by decide⟩ dr (by omega) (by rw [← hE]; exact twob)).1
  have o2 : oneD bs (⟨1, 0 / 8 * 8, d / 8 * 8⟩ : Rx) (R0 2) = R0 3 := (one_at (bs := bs) (k := 2) (w := 1) (g := 4) (q := d) ⟨by decide, by decide⟩ dr (by omega) (by rw [← hE]; exact twob)).2
  have hr := ins_rex (bs := bs) (w := 1) (b := true) rfl ⟨Int.le_refl (0 : Int), show (0 : Int) ≤ 15 by decide⟩ dr (by omega) (by rw [← hE]; exact rexb ⟨Int.le_refl (0 : Int), show (0 : Int) ≤ 15 by decide⟩ dr)
  rw [hr]
  have b1 : byteAt bs 1 = 211 := (by rw [← hE]; exact rfl)
  rw [b1]
  have hN : numD1 bs (⟨1, 0 / 8 * 8, d / 8 * 8⟩ : Rx) 211 (R0 2) = R0 3 := by rw [numD1, o1, o2]; rfl
  refine (show prefIn bs (⟨1, 0 / 8 * 8, d / 8 * 8⟩ : Rx) 211 (R0 2) = numberedR bs (⟨1, 0 / 8 * 8, d / 8 * 8⟩ : Rx) 211 (R0 2) from rfl).trans ?_
  rw [numberedR, if_neg (by decide), if_neg (by decide), hN, o1]
  rfl
theorem back31 {d s c z n k : Int} (h : fitsF ⟨27, 0, 0, true, 1, [211], 3, 5, 2, 0, 0, 0⟩ ⟨k, d, s, c, z, n⟩ = true) (hI : I64 n) (tail : List UInt8) : insR (encF ⟨k, d, s, c, z, n⟩ ++ tail) rd0 = (⟨k, d, s, c, z, n⟩, R0 (encF ⟨k, d, s, c, z, n⟩).length) := by
  simp only [fitsF, Bool.and_eq_true, decide_eq_true_eq] at h
  obtain ⟨⟨⟨⟨⟨hk, hz⟩, hd⟩, hs⟩, hc⟩, hn⟩ := h
  subst hk; subst hz
  have dr := field_range hd
  obtain rfl := fld0 hs
  obtain rfl := fld0 hc
  obtain rfl : n = 0 := of_decide_eq_true hn
  have he : encF ⟨27, d, 0, 0, 0, 0⟩ = byteOf (rexN true 0 d) :: 211 :: byteOf (twoN 5 d) :: [] := rfl
  have hL : (encF ⟨27, d, 0, 0, 0, 0⟩).length = 3 := by
    rw [he]
    rfl
  rw [hL, he]
  show insR (byteOf (rexN true 0 d) :: 211 :: byteOf (twoN 5 d) :: tail : List UInt8) rd0 = _
  generalize hE : (byteOf (rexN true 0 d) :: 211 :: byteOf (twoN 5 d) :: tail : List UInt8) = bs
  have hl : 3 ≤ bs.length := by rw [← hE]; simp only [List.length_cons]; omega
  have o1 : oneV bs (⟨1, 0 / 8 * 8, d / 8 * 8⟩ : Rx) (R0 2) = (5, d) := (one_at (bs := bs) (k := 2) (w := 1) (g := 5) (q := d) ⟨by decide, by decide⟩ dr (by omega) (by rw [← hE]; exact twob)).1
  have o2 : oneD bs (⟨1, 0 / 8 * 8, d / 8 * 8⟩ : Rx) (R0 2) = R0 3 := (one_at (bs := bs) (k := 2) (w := 1) (g := 5) (q := d) ⟨by decide, by decide⟩ dr (by omega) (by rw [← hE]; exact twob)).2
  have hr := ins_rex (bs := bs) (w := 1) (b := true) rfl ⟨Int.le_refl (0 : Int), show (0 : Int) ≤ 15 by decide⟩ dr (by omega) (by rw [← hE]; exact rexb ⟨Int.le_refl (0 : Int), show (0 : Int) ≤ 15 by decide⟩ dr)
  rw [hr]
  have b1 : byteAt bs 1 = 211 := (by rw [← hE]; exact rfl)
  rw [b1]
  have hN : numD1 bs (⟨1, 0 / 8 * 8, d / 8 * 8⟩ : Rx) 211 (R0 2) = R0 3 := by rw [numD1, o1, o2]; rfl
  refine (show prefIn bs (⟨1, 0 / 8 * 8, d / 8 * 8⟩ : Rx) 211 (R0 2) = numberedR bs (⟨1, 0 / 8 * 8, d / 8 * 8⟩ : Rx) 211 (R0 2) from rfl).trans ?_
  rw [numberedR, if_neg (by decide), if_neg (by decide), hN, o1]
  rfl
theorem back32 {d s c z n k : Int} (h : fitsF ⟨28, 0, 0, true, 1, [211], 3, 7, 2, 0, 0, 0⟩ ⟨k, d, s, c, z, n⟩ = true) (hI : I64 n) (tail : List UInt8) : insR (encF ⟨k, d, s, c, z, n⟩ ++ tail) rd0 = (⟨k, d, s, c, z, n⟩, R0 (encF ⟨k, d, s, c, z, n⟩).length) := by
  simp only [fitsF, Bool.and_eq_true, decide_eq_true_eq] at h
  obtain ⟨⟨⟨⟨⟨hk, hz⟩, hd⟩, hs⟩, hc⟩, hn⟩ := h
  subst hk; subst hz
  have dr := field_range hd
  obtain rfl := fld0 hs
  obtain rfl := fld0 hc
  obtain rfl : n = 0 := of_decide_eq_true hn
  have he : encF ⟨28, d, 0, 0, 0, 0⟩ = byteOf (rexN true 0 d) :: 211 :: byteOf (twoN 7 d) :: [] := rfl
  have hL : (encF ⟨28, d, 0, 0, 0, 0⟩).length = 3 := by
    rw [he]
    rfl
  rw [hL, he]
  show insR (byteOf (rexN true 0 d) :: 211 :: byteOf (twoN 7 d) :: tail : List UInt8) rd0 = _
  generalize hE : (byteOf (rexN true 0 d) :: 211 :: byteOf (twoN 7 d) :: tail : List UInt8) = bs
  have hl : 3 ≤ bs.length := by rw [← hE]; simp only [List.length_cons]; omega
  have o1 : oneV bs (⟨1, 0 / 8 * 8, d / 8 * 8⟩ : Rx) (R0 2) = (7, d) := (one_at (bs := bs) (k := 2) (w := 1) (g := 7) (q := d) ⟨by decide, by decide⟩ dr (by omega) (by rw [← hE]; exact twob)).1
  have o2 : oneD bs (⟨1, 0 / 8 * 8, d / 8 * 8⟩ : Rx) (R0 2) = R0 3 := (one_at (bs := bs) (k := 2) (w := 1) (g := 7) (q := d) ⟨by decide, by decide⟩ dr (by omega) (by rw [← hE]; exact twob)).2
  have hr := ins_rex (bs := bs) (w := 1) (b := true) rfl ⟨Int.le_refl (0 : Int), show (0 : Int) ≤ 15 by decide⟩ dr (by omega) (by rw [← hE]; exact rexb ⟨Int.le_refl (0 : Int), show (0 : Int) ≤ 15 by decide⟩ dr)
  rw [hr]
  have b1 : byteAt bs 1 = 211 := (by rw [← hE]; exact rfl)
  rw [b1]
  have hN : numD1 bs (⟨1, 0 / 8 * 8, d / 8 * 8⟩ : Rx) 211 (R0 2) = R0 3 := by rw [numD1, o1, o2]; rfl
  refine (show prefIn bs (⟨1, 0 / 8 * 8, d / 8 * 8⟩ : Rx) 211 (R0 2) = numberedR bs (⟨1, 0 / 8 * 8, d / 8 * 8⟩ : Rx) 211 (R0 2) from rfl).trans ?_
  rw [numberedR, if_neg (by decide), if_neg (by decide), hN, o1]
  rfl
theorem back33 {d s c z n k : Int} (h : fitsF ⟨29, 0, 0, true, 1, [193], 3, 4, 2, 0, 0, 5⟩ ⟨k, d, s, c, z, n⟩ = true) (hI : I64 n) (tail : List UInt8) : insR (encF ⟨k, d, s, c, z, n⟩ ++ tail) rd0 = (⟨k, d, s, c, z, n⟩, R0 (encF ⟨k, d, s, c, z, n⟩).length) := by
  simp only [fitsF, Bool.and_eq_true, decide_eq_true_eq] at h
  obtain ⟨⟨⟨⟨⟨hk, hz⟩, hd⟩, hs⟩, hc⟩, hn⟩ := h
  subst hk; subst hz
  have dr := field_range hd
  obtain rfl := fld0 hs
  obtain rfl := fld0 hc
  have hn : inF n (0) 63 = true := hn
  rw [inF, Bool.and_eq_true, decide_eq_true_eq, decide_eq_true_eq] at hn
  have hg : sgn 1 (n % 256 ^ 1) = n := sgn1 (by omega) (by omega)
  have he : encF ⟨29, d, 0, 0, 0, n⟩ = byteOf (rexN true 0 d) :: 193 :: byteOf (twoN 4 d) :: immF n 1 := rfl
  have hL : (encF ⟨29, d, 0, 0, 0, n⟩).length = 3 + 1 := by
    rw [he]
    show (immF n 1).length + 3 = _
    rw [imm_len]
  rw [hL, he]
  show insR (byteOf (rexN true 0 d) :: 193 :: byteOf (twoN 4 d) :: (immF n 1 ++ tail) : List UInt8) rd0 = _
  generalize hE : (byteOf (rexN true 0 d) :: 193 :: byteOf (twoN 4 d) :: (immF n 1 ++ tail) : List UInt8) = bs
  have hl : 3 ≤ bs.length := by rw [← hE]; simp only [List.length_cons]; omega
  obtain ⟨i1, i2⟩ := imm_v (pre := [byteOf (rexN true 0 d), 193, byteOf (twoN 4 d)]) (rest := tail) (m := 1) hg
  rw [show [byteOf (rexN true 0 d), 193, byteOf (twoN 4 d)] ++ (leBytes 1 n ++ tail) = bs from hE] at i1 i2
  rw [show ([byteOf (rexN true 0 d), 193, byteOf (twoN 4 d)] : List UInt8).length = 3 from rfl] at i1 i2
  have o1 : oneV bs (⟨1, 0 / 8 * 8, d / 8 * 8⟩ : Rx) (R0 2) = (4, d) := (one_at (bs := bs) (k := 2) (w := 1) (g := 4) (q := d) ⟨by decide, by decide⟩ dr (by omega) (by rw [← hE]; exact twob)).1
  have o2 : oneD bs (⟨1, 0 / 8 * 8, d / 8 * 8⟩ : Rx) (R0 2) = R0 3 := (one_at (bs := bs) (k := 2) (w := 1) (g := 4) (q := d) ⟨by decide, by decide⟩ dr (by omega) (by rw [← hE]; exact twob)).2
  have hr := ins_rex (bs := bs) (w := 1) (b := true) rfl ⟨Int.le_refl (0 : Int), show (0 : Int) ≤ 15 by decide⟩ dr (by omega) (by rw [← hE]; exact rexb ⟨Int.le_refl (0 : Int), show (0 : Int) ≤ 15 by decide⟩ dr)
  rw [hr]
  have b1 : byteAt bs 1 = 193 := (by rw [← hE]; exact rfl)
  rw [b1]
  have hN : numD1 bs (⟨1, 0 / 8 * 8, d / 8 * 8⟩ : Rx) 193 (R0 2) = R0 3 := by rw [numD1, o1, o2]; rfl
  refine (show prefIn bs (⟨1, 0 / 8 * 8, d / 8 * 8⟩ : Rx) 193 (R0 2) = numberedR bs (⟨1, 0 / 8 * 8, d / 8 * 8⟩ : Rx) 193 (R0 2) from rfl).trans ?_
  rw [numberedR, if_neg (by decide), if_pos rfl, hN, o1, i1, i2, decide_eq_true hn.1, decide_eq_true hn.2]
  rfl
theorem back34 {d s c z n k : Int} (h : fitsF ⟨30, 0, 0, true, 1, [193], 3, 5, 2, 0, 0, 5⟩ ⟨k, d, s, c, z, n⟩ = true) (hI : I64 n) (tail : List UInt8) : insR (encF ⟨k, d, s, c, z, n⟩ ++ tail) rd0 = (⟨k, d, s, c, z, n⟩, R0 (encF ⟨k, d, s, c, z, n⟩).length) := by
  simp only [fitsF, Bool.and_eq_true, decide_eq_true_eq] at h
  obtain ⟨⟨⟨⟨⟨hk, hz⟩, hd⟩, hs⟩, hc⟩, hn⟩ := h
  subst hk; subst hz
  have dr := field_range hd
  obtain rfl := fld0 hs
  obtain rfl := fld0 hc
  have hn : inF n (0) 63 = true := hn
  rw [inF, Bool.and_eq_true, decide_eq_true_eq, decide_eq_true_eq] at hn
  have hg : sgn 1 (n % 256 ^ 1) = n := sgn1 (by omega) (by omega)
  have he : encF ⟨30, d, 0, 0, 0, n⟩ = byteOf (rexN true 0 d) :: 193 :: byteOf (twoN 5 d) :: immF n 1 := rfl
  have hL : (encF ⟨30, d, 0, 0, 0, n⟩).length = 3 + 1 := by
    rw [he]
    show (immF n 1).length + 3 = _
    rw [imm_len]
  rw [hL, he]
  show insR (byteOf (rexN true 0 d) :: 193 :: byteOf (twoN 5 d) :: (immF n 1 ++ tail) : List UInt8) rd0 = _
  generalize hE : (byteOf (rexN true 0 d) :: 193 :: byteOf (twoN 5 d) :: (immF n 1 ++ tail) : List UInt8) = bs
  have hl : 3 ≤ bs.length := by rw [← hE]; simp only [List.length_cons]; omega
  obtain ⟨i1, i2⟩ := imm_v (pre := [byteOf (rexN true 0 d), 193, byteOf (twoN 5 d)]) (rest := tail) (m := 1) hg
  rw [show [byteOf (rexN true 0 d), 193, byteOf (twoN 5 d)] ++ (leBytes 1 n ++ tail) = bs from hE] at i1 i2
  rw [show ([byteOf (rexN true 0 d), 193, byteOf (twoN 5 d)] : List UInt8).length = 3 from rfl] at i1 i2
  have o1 : oneV bs (⟨1, 0 / 8 * 8, d / 8 * 8⟩ : Rx) (R0 2) = (5, d) := (one_at (bs := bs) (k := 2) (w := 1) (g := 5) (q := d) ⟨by decide, by decide⟩ dr (by omega) (by rw [← hE]; exact twob)).1
  have o2 : oneD bs (⟨1, 0 / 8 * 8, d / 8 * 8⟩ : Rx) (R0 2) = R0 3 := (one_at (bs := bs) (k := 2) (w := 1) (g := 5) (q := d) ⟨by decide, by decide⟩ dr (by omega) (by rw [← hE]; exact twob)).2
  have hr := ins_rex (bs := bs) (w := 1) (b := true) rfl ⟨Int.le_refl (0 : Int), show (0 : Int) ≤ 15 by decide⟩ dr (by omega) (by rw [← hE]; exact rexb ⟨Int.le_refl (0 : Int), show (0 : Int) ≤ 15 by decide⟩ dr)
  rw [hr]
  have b1 : byteAt bs 1 = 193 := (by rw [← hE]; exact rfl)
  rw [b1]
  have hN : numD1 bs (⟨1, 0 / 8 * 8, d / 8 * 8⟩ : Rx) 193 (R0 2) = R0 3 := by rw [numD1, o1, o2]; rfl
  refine (show prefIn bs (⟨1, 0 / 8 * 8, d / 8 * 8⟩ : Rx) 193 (R0 2) = numberedR bs (⟨1, 0 / 8 * 8, d / 8 * 8⟩ : Rx) 193 (R0 2) from rfl).trans ?_
  rw [numberedR, if_neg (by decide), if_pos rfl, hN, o1, i1, i2, decide_eq_true hn.1, decide_eq_true hn.2]
  rfl
theorem back35 {d s c z n k : Int} (h : fitsF ⟨31, 0, 0, true, 1, [193], 3, 7, 2, 0, 0, 5⟩ ⟨k, d, s, c, z, n⟩ = true) (hI : I64 n) (tail : List UInt8) : insR (encF ⟨k, d, s, c, z, n⟩ ++ tail) rd0 = (⟨k, d, s, c, z, n⟩, R0 (encF ⟨k, d, s, c, z, n⟩).length) := by
  simp only [fitsF, Bool.and_eq_true, decide_eq_true_eq] at h
  obtain ⟨⟨⟨⟨⟨hk, hz⟩, hd⟩, hs⟩, hc⟩, hn⟩ := h
  subst hk; subst hz
  have dr := field_range hd
  obtain rfl := fld0 hs
  obtain rfl := fld0 hc
  have hn : inF n (0) 63 = true := hn
  rw [inF, Bool.and_eq_true, decide_eq_true_eq, decide_eq_true_eq] at hn
  have hg : sgn 1 (n % 256 ^ 1) = n := sgn1 (by omega) (by omega)
  have he : encF ⟨31, d, 0, 0, 0, n⟩ = byteOf (rexN true 0 d) :: 193 :: byteOf (twoN 7 d) :: immF n 1 := rfl
  have hL : (encF ⟨31, d, 0, 0, 0, n⟩).length = 3 + 1 := by
    rw [he]
    show (immF n 1).length + 3 = _
    rw [imm_len]
  rw [hL, he]
  show insR (byteOf (rexN true 0 d) :: 193 :: byteOf (twoN 7 d) :: (immF n 1 ++ tail) : List UInt8) rd0 = _
  generalize hE : (byteOf (rexN true 0 d) :: 193 :: byteOf (twoN 7 d) :: (immF n 1 ++ tail) : List UInt8) = bs
  have hl : 3 ≤ bs.length := by rw [← hE]; simp only [List.length_cons]; omega
  obtain ⟨i1, i2⟩ := imm_v (pre := [byteOf (rexN true 0 d), 193, byteOf (twoN 7 d)]) (rest := tail) (m := 1) hg
  rw [show [byteOf (rexN true 0 d), 193, byteOf (twoN 7 d)] ++ (leBytes 1 n ++ tail) = bs from hE] at i1 i2
  rw [show ([byteOf (rexN true 0 d), 193, byteOf (twoN 7 d)] : List UInt8).length = 3 from rfl] at i1 i2
  have o1 : oneV bs (⟨1, 0 / 8 * 8, d / 8 * 8⟩ : Rx) (R0 2) = (7, d) := (one_at (bs := bs) (k := 2) (w := 1) (g := 7) (q := d) ⟨by decide, by decide⟩ dr (by omega) (by rw [← hE]; exact twob)).1
  have o2 : oneD bs (⟨1, 0 / 8 * 8, d / 8 * 8⟩ : Rx) (R0 2) = R0 3 := (one_at (bs := bs) (k := 2) (w := 1) (g := 7) (q := d) ⟨by decide, by decide⟩ dr (by omega) (by rw [← hE]; exact twob)).2
  have hr := ins_rex (bs := bs) (w := 1) (b := true) rfl ⟨Int.le_refl (0 : Int), show (0 : Int) ≤ 15 by decide⟩ dr (by omega) (by rw [← hE]; exact rexb ⟨Int.le_refl (0 : Int), show (0 : Int) ≤ 15 by decide⟩ dr)
  rw [hr]
  have b1 : byteAt bs 1 = 193 := (by rw [← hE]; exact rfl)
  rw [b1]
  have hN : numD1 bs (⟨1, 0 / 8 * 8, d / 8 * 8⟩ : Rx) 193 (R0 2) = R0 3 := by rw [numD1, o1, o2]; rfl
  refine (show prefIn bs (⟨1, 0 / 8 * 8, d / 8 * 8⟩ : Rx) 193 (R0 2) = numberedR bs (⟨1, 0 / 8 * 8, d / 8 * 8⟩ : Rx) 193 (R0 2) from rfl).trans ?_
  rw [numberedR, if_neg (by decide), if_pos rfl, hN, o1, i1, i2, decide_eq_true hn.1, decide_eq_true hn.2]
  rfl
theorem back36 {d s c z n k : Int} (h : fitsF ⟨32, 0, 0, true, 0, [15, 144], 3, 0, 2, 0, 4, 0⟩ ⟨k, d, s, c, z, n⟩ = true) (hI : I64 n) (tail : List UInt8) : insR (encF ⟨k, d, s, c, z, n⟩ ++ tail) rd0 = (⟨k, d, s, c, z, n⟩, R0 (encF ⟨k, d, s, c, z, n⟩).length) := by
  simp only [fitsF, Bool.and_eq_true, decide_eq_true_eq] at h
  obtain ⟨⟨⟨⟨⟨hk, hz⟩, hd⟩, hs⟩, hc⟩, hn⟩ := h
  subst hk; subst hz
  have dr := field_range hd
  obtain rfl := fld0 hs
  have cr := field_range hc
  obtain rfl : n = 0 := of_decide_eq_true hn
  have he : encF ⟨32, d, 0, c, 0, 0⟩ = byteOf (rexN false 0 d) :: 15 :: byteOf (144 + c) :: byteOf (twoN 0 d) :: [] := rfl
  have hL : (encF ⟨32, d, 0, c, 0, 0⟩).length = 4 := by
    rw [he]
    rfl
  rw [hL, he]
  show insR (byteOf (rexN false 0 d) :: 15 :: byteOf (144 + c) :: byteOf (twoN 0 d) :: tail : List UInt8) rd0 = _
  generalize hE : (byteOf (rexN false 0 d) :: 15 :: byteOf (144 + c) :: byteOf (twoN 0 d) :: tail : List UInt8) = bs
  have hl : 4 ≤ bs.length := by rw [← hE]; simp only [List.length_cons]; omega
  have o1 : oneV bs (⟨0, 0 / 8 * 8, d / 8 * 8⟩ : Rx) (R0 3) = (0, d) := (one_at (bs := bs) (k := 3) (w := 0) (g := 0) (q := d) ⟨by decide, by decide⟩ dr (by omega) (by rw [← hE]; exact twob)).1
  have o2 : oneD bs (⟨0, 0 / 8 * 8, d / 8 * 8⟩ : Rx) (R0 3) = R0 4 := (one_at (bs := bs) (k := 3) (w := 0) (g := 0) (q := d) ⟨by decide, by decide⟩ dr (by omega) (by rw [← hE]; exact twob)).2
  have hr := ins_rex (bs := bs) (w := 0) (b := false) rfl ⟨Int.le_refl (0 : Int), show (0 : Int) ≤ 15 by decide⟩ dr (by omega) (by rw [← hE]; exact rexb ⟨Int.le_refl (0 : Int), show (0 : Int) ≤ 15 by decide⟩ dr)
  rw [hr]
  have b1 : byteAt bs 1 = 15 := (by rw [← hE]; exact rfl)
  rw [b1]
  refine (show prefIn bs (⟨0, 0 / 8 * 8, d / 8 * 8⟩ : Rx) 15 (R0 2) = farR bs (⟨0, 0 / 8 * 8, d / 8 * 8⟩ : Rx) (R0 2) from rfl).trans ?_
  rw [far_at (by exact .inr rfl) (by omega)]
  obtain ⟨c1, _, _, _⟩ := cc16 cr
  have b2 : byteAt bs 2 = 144 + c := (by rw [← hE]; exact bo (by omega) (by omega))
  have e16 : (144 + c) % 16 = c := by omega
  rw [b2, farIn, if_pos (by rw [c1]; rfl), o1, o2, e16]
  rfl
theorem back37 {d s c z n k : Int} (h : fitsF ⟨33, 0, 0, true, 1, [15, 182], 3, 0, 1, 2, 0, 0⟩ ⟨k, d, s, c, z, n⟩ = true) (hI : I64 n) (tail : List UInt8) : insR (encF ⟨k, d, s, c, z, n⟩ ++ tail) rd0 = (⟨k, d, s, c, z, n⟩, R0 (encF ⟨k, d, s, c, z, n⟩).length) := by
  simp only [fitsF, Bool.and_eq_true, decide_eq_true_eq] at h
  obtain ⟨⟨⟨⟨⟨hk, hz⟩, hd⟩, hs⟩, hc⟩, hn⟩ := h
  subst hk; subst hz
  have dr := field_range hd
  have sr := field_range hs
  obtain rfl := fld0 hc
  obtain rfl : n = 0 := of_decide_eq_true hn
  have he : encF ⟨33, d, s, 0, 0, 0⟩ = byteOf (rexN true d s) :: 15 :: 182 :: byteOf (twoN d s) :: [] := rfl
  have hL : (encF ⟨33, d, s, 0, 0, 0⟩).length = 4 := by
    rw [he]
    rfl
  rw [hL, he]
  show insR (byteOf (rexN true d s) :: 15 :: 182 :: byteOf (twoN d s) :: tail : List UInt8) rd0 = _
  generalize hE : (byteOf (rexN true d s) :: 15 :: 182 :: byteOf (twoN d s) :: tail : List UInt8) = bs
  have hl : 4 ≤ bs.length := by rw [← hE]; simp only [List.length_cons]; omega
  obtain ⟨t1, t2⟩ := two_at (bs := bs) (k := 3) (w := 1) dr sr (by omega) (by rw [← hE]; exact twob)
  have hr := ins_rex (bs := bs) (w := 1) (b := true) rfl dr sr (by omega) (by rw [← hE]; exact rexb dr sr)
  rw [hr]
  have b1 : byteAt bs 1 = 15 := (by rw [← hE]; exact rfl)
  rw [b1]
  refine (show prefIn bs (⟨1, d / 8 * 8, s / 8 * 8⟩ : Rx) 15 (R0 2) = farR bs (⟨1, d / 8 * 8, s / 8 * 8⟩ : Rx) (R0 2) from rfl).trans ?_
  rw [far_at (by exact .inl rfl) (by omega)]
  have b2 : byteAt bs 2 = 182 := (by rw [← hE]; exact rfl)
  have b3 : byteAt bs 3 = twoN d s := (by rw [← hE]; exact twob)
  rw [b2]
  refine (show farIn bs (⟨1, d / 8 * 8, s / 8 * 8⟩ : Rx) 182 (R0 3) = (if peekF bs (R0 3) = true then (⟨3, (memV bs (⟨1, d / 8 * 8, s / 8 * 8⟩ : Rx) (R0 3)).1, (memV bs (⟨1, d / 8 * 8, s / 8 * 8⟩ : Rx) (R0 3)).2.1, 0, 1, (memV bs (⟨1, d / 8 * 8, s / 8 * 8⟩ : Rx) (R0 3)).2.2⟩, memD bs (R0 3)) else (⟨33, (twoV bs (⟨1, d / 8 * 8, s / 8 * 8⟩ : Rx) (R0 3)).1, (twoV bs (⟨1, d / 8 * 8, s / 8 * 8⟩ : Rx) (R0 3)).2, 0, 0, 0⟩, twoD bs (R0 3))) from rfl).trans ?_
  rw [if_neg (peek_two b3), t1, t2]
theorem back38 {d s c z n k : Int} (h : fitsF ⟨34, 0, 0, true, 1, [15, 64], 3, 0, 1, 2, 4, 0⟩ ⟨k, d, s, c, z, n⟩ = true) (hI : I64 n) (tail : List UInt8) : insR (encF ⟨k, d, s, c, z, n⟩ ++ tail) rd0 = (⟨k, d, s, c, z, n⟩, R0 (encF ⟨k, d, s, c, z, n⟩).length) := by
  simp only [fitsF, Bool.and_eq_true, decide_eq_true_eq] at h
  obtain ⟨⟨⟨⟨⟨hk, hz⟩, hd⟩, hs⟩, hc⟩, hn⟩ := h
  subst hk; subst hz
  have dr := field_range hd
  have sr := field_range hs
  have cr := field_range hc
  obtain rfl : n = 0 := of_decide_eq_true hn
  have he : encF ⟨34, d, s, c, 0, 0⟩ = byteOf (rexN true d s) :: 15 :: byteOf (64 + c) :: byteOf (twoN d s) :: [] := rfl
  have hL : (encF ⟨34, d, s, c, 0, 0⟩).length = 4 := by
    rw [he]
    rfl
  rw [hL, he]
  show insR (byteOf (rexN true d s) :: 15 :: byteOf (64 + c) :: byteOf (twoN d s) :: tail : List UInt8) rd0 = _
  generalize hE : (byteOf (rexN true d s) :: 15 :: byteOf (64 + c) :: byteOf (twoN d s) :: tail : List UInt8) = bs
  have hl : 4 ≤ bs.length := by rw [← hE]; simp only [List.length_cons]; omega
  obtain ⟨t1, t2⟩ := two_at (bs := bs) (k := 3) (w := 1) dr sr (by omega) (by rw [← hE]; exact twob)
  have hr := ins_rex (bs := bs) (w := 1) (b := true) rfl dr sr (by omega) (by rw [← hE]; exact rexb dr sr)
  rw [hr]
  have b1 : byteAt bs 1 = 15 := (by rw [← hE]; exact rfl)
  rw [b1]
  refine (show prefIn bs (⟨1, d / 8 * 8, s / 8 * 8⟩ : Rx) 15 (R0 2) = farR bs (⟨1, d / 8 * 8, s / 8 * 8⟩ : Rx) (R0 2) from rfl).trans ?_
  rw [far_at (by exact .inl rfl) (by omega)]
  obtain ⟨_, c2, _, _⟩ := cc16 cr
  have b2 : byteAt bs 2 = 64 + c := (by rw [← hE]; exact bo (by omega) (by omega))
  have e16 : (64 + c) % 16 = c := by omega
  rw [b2, farIn, if_neg (by intro q; have q2 : (false && decide (andI (64 + c) 240 = 144)) = true := q; exact Bool.noConfusion q2), if_pos (by rw [c2]; rfl), t1, t2, e16]
theorem back39 {d s c z n k : Int} (h : fitsF ⟨35, 1, 0, false, 0, [235], -1, 0, 0, 0, 0, 5⟩ ⟨k, d, s, c, z, n⟩ = true) (hI : I64 n) (tail : List UInt8) : insR (encF ⟨k, d, s, c, z, n⟩ ++ tail) rd0 = (⟨k, d, s, c, z, n⟩, R0 (encF ⟨k, d, s, c, z, n⟩).length) := by
  simp only [fitsF, Bool.and_eq_true, decide_eq_true_eq] at h
  obtain ⟨⟨⟨⟨⟨hk, hz⟩, hd⟩, hs⟩, hc⟩, hn⟩ := h
  subst hk; subst hz
  obtain rfl := fld0 hd
  obtain rfl := fld0 hs
  obtain rfl := fld0 hc
  have hn : inF n (-128) 127 = true := hn
  rw [inF, Bool.and_eq_true, decide_eq_true_eq, decide_eq_true_eq] at hn
  have hg : sgn 1 (n % 256 ^ 1) = n := sgn1 (by omega) (by omega)
  have he : encF ⟨35, 0, 0, 0, 1, n⟩ = 235 :: immF n 1 := rfl
  have hL : (encF ⟨35, 0, 0, 0, 1, n⟩).length = 1 + 1 := by
    rw [he]
    show (immF n 1).length + 1 = _
    rw [imm_len]
  rw [hL, he]
  show insR (235 :: (immF n 1 ++ tail) : List UInt8) rd0 = _
  generalize hE : (235 :: (immF n 1 ++ tail) : List UInt8) = bs
  have hl : 1 ≤ bs.length := by rw [← hE]; simp only [List.length_cons]; omega
  obtain ⟨i1, i2⟩ := imm_v (pre := [235]) (rest := tail) (m := 1) hg
  rw [show [235] ++ (leBytes 1 n ++ tail) = bs from hE] at i1 i2
  rw [show ([235] : List UInt8).length = 1 from rfl] at i1 i2
  rw [ins_first (by omega)]
  have b0 : byteAt bs 0 = 235 := (by rw [← hE]; exact rfl)
  rw [b0]
  refine (show insIn bs 235 (R0 1) = (⟨35, 0, 0, 0, 1, immV bs (R0 1) 1⟩, immD bs (R0 1) 1) from rfl).trans ?_
  rw [i1, i2]
theorem back40 {d s c z n k : Int} (h : fitsF ⟨35, 4, 0, false, 0, [233], -1, 0, 0, 0, 0, 6⟩ ⟨k, d, s, c, z, n⟩ = true) (hI : I64 n) (tail : List UInt8) : insR (encF ⟨k, d, s, c, z, n⟩ ++ tail) rd0 = (⟨k, d, s, c, z, n⟩, R0 (encF ⟨k, d, s, c, z, n⟩).length) := by
  simp only [fitsF, Bool.and_eq_true, decide_eq_true_eq] at h
  obtain ⟨⟨⟨⟨⟨hk, hz⟩, hd⟩, hs⟩, hc⟩, hn⟩ := h
  subst hk; subst hz
  obtain rfl := fld0 hd
  obtain rfl := fld0 hs
  obtain rfl := fld0 hc
  have hn : smallF n = true := hn
  have hg : sgn 4 (n % 256 ^ 4) = n := sgn4 hn
  have he : encF ⟨35, 0, 0, 0, 4, n⟩ = 233 :: immF n 4 := rfl
  have hL : (encF ⟨35, 0, 0, 0, 4, n⟩).length = 1 + 4 := by
    rw [he]
    show (immF n 4).length + 1 = _
    rw [imm_len]
  rw [hL, he]
  show insR (233 :: (immF n 4 ++ tail) : List UInt8) rd0 = _
  generalize hE : (233 :: (immF n 4 ++ tail) : List UInt8) = bs
  have hl : 1 ≤ bs.length := by rw [← hE]; simp only [List.length_cons]; omega
  obtain ⟨i1, i2⟩ := imm_v (pre := [233]) (rest := tail) (m := 4) hg
  rw [show [233] ++ (leBytes 4 n ++ tail) = bs from hE] at i1 i2
  rw [show ([233] : List UInt8).length = 1 from rfl] at i1 i2
  rw [ins_first (by omega)]
  have b0 : byteAt bs 0 = 233 := (by rw [← hE]; exact rfl)
  rw [b0]
  refine (show insIn bs 233 (R0 1) = (⟨35, 0, 0, 0, 4, immV bs (R0 1) 4⟩, immD bs (R0 1) 4) from rfl).trans ?_
  rw [i1, i2]
theorem back41 {d s c z n k : Int} (h : fitsF ⟨36, 1, 0, false, 0, [112], -1, 0, 0, 0, 4, 5⟩ ⟨k, d, s, c, z, n⟩ = true) (hI : I64 n) (tail : List UInt8) : insR (encF ⟨k, d, s, c, z, n⟩ ++ tail) rd0 = (⟨k, d, s, c, z, n⟩, R0 (encF ⟨k, d, s, c, z, n⟩).length) := by
  simp only [fitsF, Bool.and_eq_true, decide_eq_true_eq] at h
  obtain ⟨⟨⟨⟨⟨hk, hz⟩, hd⟩, hs⟩, hc⟩, hn⟩ := h
  subst hk; subst hz
  obtain rfl := fld0 hd
  obtain rfl := fld0 hs
  have cr := field_range hc
  have hn : inF n (-128) 127 = true := hn
  rw [inF, Bool.and_eq_true, decide_eq_true_eq, decide_eq_true_eq] at hn
  have hg : sgn 1 (n % 256 ^ 1) = n := sgn1 (by omega) (by omega)
  have he : encF ⟨36, 0, 0, c, 1, n⟩ = byteOf (112 + c) :: immF n 1 := rfl
  have hL : (encF ⟨36, 0, 0, c, 1, n⟩).length = 1 + 1 := by
    rw [he]
    show (immF n 1).length + 1 = _
    rw [imm_len]
  rw [hL, he]
  show insR (byteOf (112 + c) :: (immF n 1 ++ tail) : List UInt8) rd0 = _
  generalize hE : (byteOf (112 + c) :: (immF n 1 ++ tail) : List UInt8) = bs
  have hl : 1 ≤ bs.length := by rw [← hE]; simp only [List.length_cons]; omega
  obtain ⟨i1, i2⟩ := imm_v (pre := [byteOf (112 + c)]) (rest := tail) (m := 1) hg
  rw [show [byteOf (112 + c)] ++ (leBytes 1 n ++ tail) = bs from hE] at i1 i2
  rw [show ([byteOf (112 + c)] : List UInt8).length = 1 from rfl] at i1 i2
  rw [ins_first (by omega)]
  obtain ⟨_, _, c3, _⟩ := cc16 cr
  have b0 : byteAt bs 0 = 112 + c := (by rw [← hE]; exact bo (by omega) (by omega))
  have e16 : (112 + c) % 16 = c := by omega
  rw [b0, insIn, if_neg (fun q => absurd (c3.symm.trans q) (by decide)), if_neg (by rw [Bool.or_eq_true, decide_eq_true_eq, decide_eq_true_eq]; omega), if_pos c3, i1, i2, e16]
theorem back42 {d s c z n k : Int} (h : fitsF ⟨36, 4, 0, false, 0, [15, 128], -1, 0, 0, 0, 4, 6⟩ ⟨k, d, s, c, z, n⟩ = true) (hI : I64 n) (tail : List UInt8) : insR (encF ⟨k, d, s, c, z, n⟩ ++ tail) rd0 = (⟨k, d, s, c, z, n⟩, R0 (encF ⟨k, d, s, c, z, n⟩).length) := by
  simp only [fitsF, Bool.and_eq_true, decide_eq_true_eq] at h
  obtain ⟨⟨⟨⟨⟨hk, hz⟩, hd⟩, hs⟩, hc⟩, hn⟩ := h
  subst hk; subst hz
  obtain rfl := fld0 hd
  obtain rfl := fld0 hs
  have cr := field_range hc
  have hn : smallF n = true := hn
  have hg : sgn 4 (n % 256 ^ 4) = n := sgn4 hn
  have he : encF ⟨36, 0, 0, c, 4, n⟩ = 15 :: byteOf (128 + c) :: immF n 4 := rfl
  have hL : (encF ⟨36, 0, 0, c, 4, n⟩).length = 2 + 4 := by
    rw [he]
    show (immF n 4).length + 2 = _
    rw [imm_len]
  rw [hL, he]
  show insR (15 :: byteOf (128 + c) :: (immF n 4 ++ tail) : List UInt8) rd0 = _
  generalize hE : (15 :: byteOf (128 + c) :: (immF n 4 ++ tail) : List UInt8) = bs
  have hl : 2 ≤ bs.length := by rw [← hE]; simp only [List.length_cons]; omega
  obtain ⟨i1, i2⟩ := imm_v (pre := [15, byteOf (128 + c)]) (rest := tail) (m := 4) hg
  rw [show [15, byteOf (128 + c)] ++ (leBytes 4 n ++ tail) = bs from hE] at i1 i2
  rw [show ([15, byteOf (128 + c)] : List UInt8).length = 2 from rfl] at i1 i2
  rw [ins_first (by omega)]
  have b0 : byteAt bs 0 = 15 := (by rw [← hE]; exact rfl)
  have n1 : nextF bs (R0 1) = (byteAt bs 1, R0 2) := nx (by omega)
  rw [b0]
  refine (show insIn bs 15 (R0 1) = insTwo bs (R0 1) from rfl).trans ?_
  obtain ⟨_, _, _, c4⟩ := cc16 cr
  have b1 : byteAt bs 1 = 128 + c := (by rw [← hE]; exact bo (by omega) (by omega))
  have e16 : (128 + c) % 16 = c := by omega
  rw [insTwo, n1, b1]
  dsimp only
  rw [if_neg (by omega), if_neg (by omega), if_pos c4, i1, i2, e16]
theorem back43 {d s c z n k : Int} (h : fitsF ⟨37, 0, 0, false, 0, [232], -1, 0, 0, 0, 0, 6⟩ ⟨k, d, s, c, z, n⟩ = true) (hI : I64 n) (tail : List UInt8) : insR (encF ⟨k, d, s, c, z, n⟩ ++ tail) rd0 = (⟨k, d, s, c, z, n⟩, R0 (encF ⟨k, d, s, c, z, n⟩).length) := by
  simp only [fitsF, Bool.and_eq_true, decide_eq_true_eq] at h
  obtain ⟨⟨⟨⟨⟨hk, hz⟩, hd⟩, hs⟩, hc⟩, hn⟩ := h
  subst hk; subst hz
  obtain rfl := fld0 hd
  obtain rfl := fld0 hs
  obtain rfl := fld0 hc
  have hn : smallF n = true := hn
  have hg : sgn 4 (n % 256 ^ 4) = n := sgn4 hn
  have he : encF ⟨37, 0, 0, 0, 0, n⟩ = 232 :: immF n 4 := rfl
  have hL : (encF ⟨37, 0, 0, 0, 0, n⟩).length = 1 + 4 := by
    rw [he]
    show (immF n 4).length + 1 = _
    rw [imm_len]
  rw [hL, he]
  show insR (232 :: (immF n 4 ++ tail) : List UInt8) rd0 = _
  generalize hE : (232 :: (immF n 4 ++ tail) : List UInt8) = bs
  have hl : 1 ≤ bs.length := by rw [← hE]; simp only [List.length_cons]; omega
  obtain ⟨i1, i2⟩ := imm_v (pre := [232]) (rest := tail) (m := 4) hg
  rw [show [232] ++ (leBytes 4 n ++ tail) = bs from hE] at i1 i2
  rw [show ([232] : List UInt8).length = 1 from rfl] at i1 i2
  rw [ins_first (by omega)]
  have b0 : byteAt bs 0 = 232 := (by rw [← hE]; exact rfl)
  rw [b0]
  refine (show insIn bs 232 (R0 1) = (⟨37, 0, 0, 0, 0, immV bs (R0 1) 4⟩, immD bs (R0 1) 4) from rfl).trans ?_
  rw [i1, i2]
theorem back44 {d s c z n k : Int} (h : fitsF ⟨38, 0, 0, true, 0, [255], 3, 2, 2, 0, 0, 0⟩ ⟨k, d, s, c, z, n⟩ = true) (hI : I64 n) (tail : List UInt8) : insR (encF ⟨k, d, s, c, z, n⟩ ++ tail) rd0 = (⟨k, d, s, c, z, n⟩, R0 (encF ⟨k, d, s, c, z, n⟩).length) := by
  simp only [fitsF, Bool.and_eq_true, decide_eq_true_eq] at h
  obtain ⟨⟨⟨⟨⟨hk, hz⟩, hd⟩, hs⟩, hc⟩, hn⟩ := h
  subst hk; subst hz
  have dr := field_range hd
  obtain rfl := fld0 hs
  obtain rfl := fld0 hc
  obtain rfl : n = 0 := of_decide_eq_true hn
  have he : encF ⟨38, d, 0, 0, 0, 0⟩ = byteOf (rexN false 0 d) :: 255 :: byteOf (twoN 2 d) :: [] := rfl
  have hL : (encF ⟨38, d, 0, 0, 0, 0⟩).length = 3 := by
    rw [he]
    rfl
  rw [hL, he]
  show insR (byteOf (rexN false 0 d) :: 255 :: byteOf (twoN 2 d) :: tail : List UInt8) rd0 = _
  generalize hE : (byteOf (rexN false 0 d) :: 255 :: byteOf (twoN 2 d) :: tail : List UInt8) = bs
  have hl : 3 ≤ bs.length := by rw [← hE]; simp only [List.length_cons]; omega
  have o1 : oneV bs (⟨0, 0 / 8 * 8, d / 8 * 8⟩ : Rx) (R0 2) = (2, d) := (one_at (bs := bs) (k := 2) (w := 0) (g := 2) (q := d) ⟨by decide, by decide⟩ dr (by omega) (by rw [← hE]; exact twob)).1
  have o2 : oneD bs (⟨0, 0 / 8 * 8, d / 8 * 8⟩ : Rx) (R0 2) = R0 3 := (one_at (bs := bs) (k := 2) (w := 0) (g := 2) (q := d) ⟨by decide, by decide⟩ dr (by omega) (by rw [← hE]; exact twob)).2
  have hr := ins_rex (bs := bs) (w := 0) (b := false) rfl ⟨Int.le_refl (0 : Int), show (0 : Int) ≤ 15 by decide⟩ dr (by omega) (by rw [← hE]; exact rexb ⟨Int.le_refl (0 : Int), show (0 : Int) ≤ 15 by decide⟩ dr)
  rw [hr]
  have b1 : byteAt bs 1 = 255 := (by rw [← hE]; exact rfl)
  rw [b1]
  refine (show prefIn bs (⟨0, 0 / 8 * 8, d / 8 * 8⟩ : Rx) 255 (R0 2) = narrowR bs (⟨0, 0 / 8 * 8, d / 8 * 8⟩ : Rx) 255 (R0 2) from rfl).trans ?_
  rw [narrowR, if_neg (by decide), if_neg (by decide), if_neg (by decide), if_pos rfl, o1, o2]
  rfl
theorem back45 {d s c z n k : Int} (h : fitsF ⟨39, 0, 0, true, 0, [255], 3, 4, 2, 0, 0, 0⟩ ⟨k, d, s, c, z, n⟩ = true) (hI : I64 n) (tail : List UInt8) : insR (encF ⟨k, d, s, c, z, n⟩ ++ tail) rd0 = (⟨k, d, s, c, z, n⟩, R0 (encF ⟨k, d, s, c, z, n⟩).length) := by
  simp only [fitsF, Bool.and_eq_true, decide_eq_true_eq] at h
  obtain ⟨⟨⟨⟨⟨hk, hz⟩, hd⟩, hs⟩, hc⟩, hn⟩ := h
  subst hk; subst hz
  have dr := field_range hd
  obtain rfl := fld0 hs
  obtain rfl := fld0 hc
  obtain rfl : n = 0 := of_decide_eq_true hn
  have he : encF ⟨39, d, 0, 0, 0, 0⟩ = byteOf (rexN false 0 d) :: 255 :: byteOf (twoN 4 d) :: [] := rfl
  have hL : (encF ⟨39, d, 0, 0, 0, 0⟩).length = 3 := by
    rw [he]
    rfl
  rw [hL, he]
  show insR (byteOf (rexN false 0 d) :: 255 :: byteOf (twoN 4 d) :: tail : List UInt8) rd0 = _
  generalize hE : (byteOf (rexN false 0 d) :: 255 :: byteOf (twoN 4 d) :: tail : List UInt8) = bs
  have hl : 3 ≤ bs.length := by rw [← hE]; simp only [List.length_cons]; omega
  have o1 : oneV bs (⟨0, 0 / 8 * 8, d / 8 * 8⟩ : Rx) (R0 2) = (4, d) := (one_at (bs := bs) (k := 2) (w := 0) (g := 4) (q := d) ⟨by decide, by decide⟩ dr (by omega) (by rw [← hE]; exact twob)).1
  have o2 : oneD bs (⟨0, 0 / 8 * 8, d / 8 * 8⟩ : Rx) (R0 2) = R0 3 := (one_at (bs := bs) (k := 2) (w := 0) (g := 4) (q := d) ⟨by decide, by decide⟩ dr (by omega) (by rw [← hE]; exact twob)).2
  have hr := ins_rex (bs := bs) (w := 0) (b := false) rfl ⟨Int.le_refl (0 : Int), show (0 : Int) ≤ 15 by decide⟩ dr (by omega) (by rw [← hE]; exact rexb ⟨Int.le_refl (0 : Int), show (0 : Int) ≤ 15 by decide⟩ dr)
  rw [hr]
  have b1 : byteAt bs 1 = 255 := (by rw [← hE]; exact rfl)
  rw [b1]
  refine (show prefIn bs (⟨0, 0 / 8 * 8, d / 8 * 8⟩ : Rx) 255 (R0 2) = narrowR bs (⟨0, 0 / 8 * 8, d / 8 * 8⟩ : Rx) 255 (R0 2) from rfl).trans ?_
  rw [narrowR, if_neg (by decide), if_neg (by decide), if_neg (by decide), if_pos rfl, o1, o2]
  rfl
theorem back46 {d s c z n k : Int} (h : fitsF ⟨40, 0, 0, false, 0, [195], -1, 0, 0, 0, 0, 0⟩ ⟨k, d, s, c, z, n⟩ = true) (hI : I64 n) (tail : List UInt8) : insR (encF ⟨k, d, s, c, z, n⟩ ++ tail) rd0 = (⟨k, d, s, c, z, n⟩, R0 (encF ⟨k, d, s, c, z, n⟩).length) := by
  simp only [fitsF, Bool.and_eq_true, decide_eq_true_eq] at h
  obtain ⟨⟨⟨⟨⟨hk, hz⟩, hd⟩, hs⟩, hc⟩, hn⟩ := h
  subst hk; subst hz
  obtain rfl := fld0 hd
  obtain rfl := fld0 hs
  obtain rfl := fld0 hc
  obtain rfl : n = 0 := of_decide_eq_true hn
  have he : encF ⟨40, 0, 0, 0, 0, 0⟩ = 195 :: [] := rfl
  have hL : (encF ⟨40, 0, 0, 0, 0, 0⟩).length = 1 := by
    rw [he]
    rfl
  rw [hL, he]
  show insR (195 :: tail : List UInt8) rd0 = _
  generalize hE : (195 :: tail : List UInt8) = bs
  have hl : 1 ≤ bs.length := by rw [← hE]; simp only [List.length_cons]; omega
  rw [ins_first (by omega)]
  have b0 : byteAt bs 0 = 195 := (by rw [← hE]; exact rfl)
  rw [b0]
  refine (show insIn bs 195 (R0 1) = (⟨40, 0, 0, 0, 0, 0⟩, R0 1) from rfl).trans ?_
  rfl
theorem back47 {d s c z n k : Int} (h : fitsF ⟨41, 0, 0, true, 0, [80], -1, 0, 3, 0, 0, 0⟩ ⟨k, d, s, c, z, n⟩ = true) (hI : I64 n) (tail : List UInt8) : insR (encF ⟨k, d, s, c, z, n⟩ ++ tail) rd0 = (⟨k, d, s, c, z, n⟩, R0 (encF ⟨k, d, s, c, z, n⟩).length) := by
  simp only [fitsF, Bool.and_eq_true, decide_eq_true_eq] at h
  obtain ⟨⟨⟨⟨⟨hk, hz⟩, hd⟩, hs⟩, hc⟩, hn⟩ := h
  subst hk; subst hz
  have dr := field_range hd
  obtain rfl := fld0 hs
  obtain rfl := fld0 hc
  obtain rfl : n = 0 := of_decide_eq_true hn
  have he : encF ⟨41, d, 0, 0, 0, 0⟩ = byteOf (rexN false 0 d) :: byteOf (80 + d % 8) :: [] := rfl
  have hL : (encF ⟨41, d, 0, 0, 0, 0⟩).length = 2 := by
    rw [he]
    rfl
  rw [hL, he]
  show insR (byteOf (rexN false 0 d) :: byteOf (80 + d % 8) :: tail : List UInt8) rd0 = _
  generalize hE : (byteOf (rexN false 0 d) :: byteOf (80 + d % 8) :: tail : List UInt8) = bs
  have hl : 2 ≤ bs.length := by rw [← hE]; simp only [List.length_cons]; omega
  have hr := ins_rex (bs := bs) (w := 0) (b := false) rfl ⟨Int.le_refl (0 : Int), show (0 : Int) ≤ 15 by decide⟩ dr (by omega) (by rw [← hE]; exact rexb ⟨Int.le_refl (0 : Int), show (0 : Int) ≤ 15 by decide⟩ dr)
  rw [hr]
  obtain ⟨l1, l2, l3⟩ := low8 dr
  have b1 : byteAt bs 1 = 80 + d % 8 := (by rw [← hE]; exact bo (by omega) (by omega))
  have e8 : (80 + d % 8) % 8 = d % 8 := by omega
  rw [b1]
  rw [prefIn, if_neg (by omega), if_pos rfl, narrowR, if_neg (by omega), if_neg (by omega), if_neg (by omega), if_neg (by omega), if_pos l1, e8, reg_parts dr]
  rfl
theorem back48 {d s c z n k : Int} (h : fitsF ⟨42, 0, 0, true, 0, [88], -1, 0, 3, 0, 0, 0⟩ ⟨k, d, s, c, z, n⟩ = true) (hI : I64 n) (tail : List UInt8) : insR (encF ⟨k, d, s, c, z, n⟩ ++ tail) rd0 = (⟨k, d, s, c, z, n⟩, R0 (encF ⟨k, d, s, c, z, n⟩).length) := by
  simp only [fitsF, Bool.and_eq_true, decide_eq_true_eq] at h
  obtain ⟨⟨⟨⟨⟨hk, hz⟩, hd⟩, hs⟩, hc⟩, hn⟩ := h
  subst hk; subst hz
  have dr := field_range hd
  obtain rfl := fld0 hs
  obtain rfl := fld0 hc
  obtain rfl : n = 0 := of_decide_eq_true hn
  have he : encF ⟨42, d, 0, 0, 0, 0⟩ = byteOf (rexN false 0 d) :: byteOf (88 + d % 8) :: [] := rfl
  have hL : (encF ⟨42, d, 0, 0, 0, 0⟩).length = 2 := by
    rw [he]
    rfl
  rw [hL, he]
  show insR (byteOf (rexN false 0 d) :: byteOf (88 + d % 8) :: tail : List UInt8) rd0 = _
  generalize hE : (byteOf (rexN false 0 d) :: byteOf (88 + d % 8) :: tail : List UInt8) = bs
  have hl : 2 ≤ bs.length := by rw [← hE]; simp only [List.length_cons]; omega
  have hr := ins_rex (bs := bs) (w := 0) (b := false) rfl ⟨Int.le_refl (0 : Int), show (0 : Int) ≤ 15 by decide⟩ dr (by omega) (by rw [← hE]; exact rexb ⟨Int.le_refl (0 : Int), show (0 : Int) ≤ 15 by decide⟩ dr)
  rw [hr]
  obtain ⟨l1, l2, l3⟩ := low8 dr
  have b1 : byteAt bs 1 = 88 + d % 8 := (by rw [← hE]; exact bo (by omega) (by omega))
  have e8 : (88 + d % 8) % 8 = d % 8 := by omega
  rw [b1]
  rw [prefIn, if_neg (by omega), if_pos rfl, narrowR, if_neg (by omega), if_neg (by omega), if_neg (by omega), if_neg (by omega), if_neg (fun q => absurd (l2.symm.trans q) (by decide)), if_pos l2, e8, reg_parts dr]
  rfl
theorem back49 {d s c z n k : Int} (h : fitsF ⟨43, 0, 0, false, 0, [15, 5], -1, 0, 0, 0, 0, 0⟩ ⟨k, d, s, c, z, n⟩ = true) (hI : I64 n) (tail : List UInt8) : insR (encF ⟨k, d, s, c, z, n⟩ ++ tail) rd0 = (⟨k, d, s, c, z, n⟩, R0 (encF ⟨k, d, s, c, z, n⟩).length) := by
  simp only [fitsF, Bool.and_eq_true, decide_eq_true_eq] at h
  obtain ⟨⟨⟨⟨⟨hk, hz⟩, hd⟩, hs⟩, hc⟩, hn⟩ := h
  subst hk; subst hz
  obtain rfl := fld0 hd
  obtain rfl := fld0 hs
  obtain rfl := fld0 hc
  obtain rfl : n = 0 := of_decide_eq_true hn
  have he : encF ⟨43, 0, 0, 0, 0, 0⟩ = 15 :: 5 :: [] := rfl
  have hL : (encF ⟨43, 0, 0, 0, 0, 0⟩).length = 2 := by
    rw [he]
    rfl
  rw [hL, he]
  show insR (15 :: 5 :: tail : List UInt8) rd0 = _
  generalize hE : (15 :: 5 :: tail : List UInt8) = bs
  have hl : 2 ≤ bs.length := by rw [← hE]; simp only [List.length_cons]; omega
  rw [ins_first (by omega)]
  have b0 : byteAt bs 0 = 15 := (by rw [← hE]; exact rfl)
  have n1 : nextF bs (R0 1) = (byteAt bs 1, R0 2) := nx (by omega)
  rw [b0]
  refine (show insIn bs 15 (R0 1) = insTwo bs (R0 1) from rfl).trans ?_
  have b1 : byteAt bs 1 = 5 := (by rw [← hE]; exact rfl)
  rw [insTwo, n1, b1]
  rfl
theorem back50 {d s c z n k : Int} (h : fitsF ⟨44, 0, 0, false, 0, [15, 11], -1, 0, 0, 0, 0, 0⟩ ⟨k, d, s, c, z, n⟩ = true) (hI : I64 n) (tail : List UInt8) : insR (encF ⟨k, d, s, c, z, n⟩ ++ tail) rd0 = (⟨k, d, s, c, z, n⟩, R0 (encF ⟨k, d, s, c, z, n⟩).length) := by
  simp only [fitsF, Bool.and_eq_true, decide_eq_true_eq] at h
  obtain ⟨⟨⟨⟨⟨hk, hz⟩, hd⟩, hs⟩, hc⟩, hn⟩ := h
  subst hk; subst hz
  obtain rfl := fld0 hd
  obtain rfl := fld0 hs
  obtain rfl := fld0 hc
  obtain rfl : n = 0 := of_decide_eq_true hn
  have he : encF ⟨44, 0, 0, 0, 0, 0⟩ = 15 :: 11 :: [] := rfl
  have hL : (encF ⟨44, 0, 0, 0, 0, 0⟩).length = 2 := by
    rw [he]
    rfl
  rw [hL, he]
  show insR (15 :: 11 :: tail : List UInt8) rd0 = _
  generalize hE : (15 :: 11 :: tail : List UInt8) = bs
  have hl : 2 ≤ bs.length := by rw [← hE]; simp only [List.length_cons]; omega
  rw [ins_first (by omega)]
  have b0 : byteAt bs 0 = 15 := (by rw [← hE]; exact rfl)
  have n1 : nextF bs (R0 1) = (byteAt bs 1, R0 2) := nx (by omega)
  rw [b0]
  refine (show insIn bs 15 (R0 1) = insTwo bs (R0 1) from rfl).trans ?_
  have b1 : byteAt bs 1 = 11 := (by rw [← hE]; exact rfl)
  rw [insTwo, n1, b1]
  rfl
theorem back51 {d s c z n k : Int} (h : fitsF ⟨45, 0, 102, true, 1, [15, 110], 3, 0, 1, 2, 0, 0⟩ ⟨k, d, s, c, z, n⟩ = true) (hI : I64 n) (tail : List UInt8) : insR (encF ⟨k, d, s, c, z, n⟩ ++ tail) rd0 = (⟨k, d, s, c, z, n⟩, R0 (encF ⟨k, d, s, c, z, n⟩).length) := by
  simp only [fitsF, Bool.and_eq_true, decide_eq_true_eq] at h
  obtain ⟨⟨⟨⟨⟨hk, hz⟩, hd⟩, hs⟩, hc⟩, hn⟩ := h
  subst hk; subst hz
  have dr := field_range hd
  have sr := field_range hs
  obtain rfl := fld0 hc
  obtain rfl : n = 0 := of_decide_eq_true hn
  have he : encF ⟨45, d, s, 0, 0, 0⟩ = 102 :: byteOf (rexN true d s) :: 15 :: 110 :: byteOf (twoN d s) :: [] := rfl
  have hL : (encF ⟨45, d, s, 0, 0, 0⟩).length = 5 := by
    rw [he]
    rfl
  rw [hL, he]
  show insR (102 :: byteOf (rexN true d s) :: 15 :: 110 :: byteOf (twoN d s) :: tail : List UInt8) rd0 = _
  generalize hE : (102 :: byteOf (rexN true d s) :: 15 :: 110 :: byteOf (twoN d s) :: tail : List UInt8) = bs
  have hl : 5 ≤ bs.length := by rw [← hE]; simp only [List.length_cons]; omega
  obtain ⟨t1, t2⟩ := two_at (bs := bs) (k := 4) (w := 1) dr sr (by omega) (by rw [← hE]; exact twob)
  have hr := real_at (bs := bs) (w := 1) (b := true) (f := 102) rfl dr sr (by decide) (by omega) (by rw [← hE]; exact rfl) (by rw [← hE]; exact rexb dr sr) (by rw [← hE]; exact rfl)
  have b3 : byteAt bs 3 = 110 := (by rw [← hE]; exact rfl)
  rw [hr, b3]
  refine (show realIn bs 102 (⟨1, d / 8 * 8, s / 8 * 8⟩ : Rx) 110 (R0 4) = (⟨45, (twoV bs (⟨1, d / 8 * 8, s / 8 * 8⟩ : Rx) (R0 4)).1, (twoV bs (⟨1, d / 8 * 8, s / 8 * 8⟩ : Rx) (R0 4)).2, 0, 0, 0⟩, twoD bs (R0 4)) from rfl).trans ?_
  rw [t1, t2]
theorem back52 {d s c z n k : Int} (h : fitsF ⟨46, 0, 102, true, 1, [15, 126], 3, 0, 2, 1, 0, 0⟩ ⟨k, d, s, c, z, n⟩ = true) (hI : I64 n) (tail : List UInt8) : insR (encF ⟨k, d, s, c, z, n⟩ ++ tail) rd0 = (⟨k, d, s, c, z, n⟩, R0 (encF ⟨k, d, s, c, z, n⟩).length) := by
  simp only [fitsF, Bool.and_eq_true, decide_eq_true_eq] at h
  obtain ⟨⟨⟨⟨⟨hk, hz⟩, hd⟩, hs⟩, hc⟩, hn⟩ := h
  subst hk; subst hz
  have dr := field_range hd
  have sr := field_range hs
  obtain rfl := fld0 hc
  obtain rfl : n = 0 := of_decide_eq_true hn
  have he : encF ⟨46, d, s, 0, 0, 0⟩ = 102 :: byteOf (rexN true s d) :: 15 :: 126 :: byteOf (twoN s d) :: [] := rfl
  have hL : (encF ⟨46, d, s, 0, 0, 0⟩).length = 5 := by
    rw [he]
    rfl
  rw [hL, he]
  show insR (102 :: byteOf (rexN true s d) :: 15 :: 126 :: byteOf (twoN s d) :: tail : List UInt8) rd0 = _
  generalize hE : (102 :: byteOf (rexN true s d) :: 15 :: 126 :: byteOf (twoN s d) :: tail : List UInt8) = bs
  have hl : 5 ≤ bs.length := by rw [← hE]; simp only [List.length_cons]; omega
  obtain ⟨t1, t2⟩ := two_at (bs := bs) (k := 4) (w := 1) sr dr (by omega) (by rw [← hE]; exact twob)
  have hr := real_at (bs := bs) (w := 1) (b := true) (f := 102) rfl sr dr (by decide) (by omega) (by rw [← hE]; exact rfl) (by rw [← hE]; exact rexb sr dr) (by rw [← hE]; exact rfl)
  have b3 : byteAt bs 3 = 126 := (by rw [← hE]; exact rfl)
  rw [hr, b3]
  refine (show realIn bs 102 (⟨1, s / 8 * 8, d / 8 * 8⟩ : Rx) 126 (R0 4) = (⟨46, (twoV bs (⟨1, s / 8 * 8, d / 8 * 8⟩ : Rx) (R0 4)).2, (twoV bs (⟨1, s / 8 * 8, d / 8 * 8⟩ : Rx) (R0 4)).1, 0, 0, 0⟩, twoD bs (R0 4)) from rfl).trans ?_
  rw [t1, t2]
theorem back53 {d s c z n k : Int} (h : fitsF ⟨47, 0, 242, true, 0, [15, 88], 3, 0, 1, 2, 0, 0⟩ ⟨k, d, s, c, z, n⟩ = true) (hI : I64 n) (tail : List UInt8) : insR (encF ⟨k, d, s, c, z, n⟩ ++ tail) rd0 = (⟨k, d, s, c, z, n⟩, R0 (encF ⟨k, d, s, c, z, n⟩).length) := by
  simp only [fitsF, Bool.and_eq_true, decide_eq_true_eq] at h
  obtain ⟨⟨⟨⟨⟨hk, hz⟩, hd⟩, hs⟩, hc⟩, hn⟩ := h
  subst hk; subst hz
  have dr := field_range hd
  have sr := field_range hs
  obtain rfl := fld0 hc
  obtain rfl : n = 0 := of_decide_eq_true hn
  have he : encF ⟨47, d, s, 0, 0, 0⟩ = 242 :: byteOf (rexN false d s) :: 15 :: 88 :: byteOf (twoN d s) :: [] := rfl
  have hL : (encF ⟨47, d, s, 0, 0, 0⟩).length = 5 := by
    rw [he]
    rfl
  rw [hL, he]
  show insR (242 :: byteOf (rexN false d s) :: 15 :: 88 :: byteOf (twoN d s) :: tail : List UInt8) rd0 = _
  generalize hE : (242 :: byteOf (rexN false d s) :: 15 :: 88 :: byteOf (twoN d s) :: tail : List UInt8) = bs
  have hl : 5 ≤ bs.length := by rw [← hE]; simp only [List.length_cons]; omega
  obtain ⟨t1, t2⟩ := two_at (bs := bs) (k := 4) (w := 0) dr sr (by omega) (by rw [← hE]; exact twob)
  have hr := real_at (bs := bs) (w := 0) (b := false) (f := 242) rfl dr sr (by decide) (by omega) (by rw [← hE]; exact rfl) (by rw [← hE]; exact rexb dr sr) (by rw [← hE]; exact rfl)
  have b3 : byteAt bs 3 = 88 := (by rw [← hE]; exact rfl)
  rw [hr, b3]
  refine (show realIn bs 242 (⟨0, d / 8 * 8, s / 8 * 8⟩ : Rx) 88 (R0 4) = (⟨47, (twoV bs (⟨0, d / 8 * 8, s / 8 * 8⟩ : Rx) (R0 4)).1, (twoV bs (⟨0, d / 8 * 8, s / 8 * 8⟩ : Rx) (R0 4)).2, 0, 0, 0⟩, twoD bs (R0 4)) from rfl).trans ?_
  rw [t1, t2]
theorem back54 {d s c z n k : Int} (h : fitsF ⟨48, 0, 242, true, 0, [15, 89], 3, 0, 1, 2, 0, 0⟩ ⟨k, d, s, c, z, n⟩ = true) (hI : I64 n) (tail : List UInt8) : insR (encF ⟨k, d, s, c, z, n⟩ ++ tail) rd0 = (⟨k, d, s, c, z, n⟩, R0 (encF ⟨k, d, s, c, z, n⟩).length) := by
  simp only [fitsF, Bool.and_eq_true, decide_eq_true_eq] at h
  obtain ⟨⟨⟨⟨⟨hk, hz⟩, hd⟩, hs⟩, hc⟩, hn⟩ := h
  subst hk; subst hz
  have dr := field_range hd
  have sr := field_range hs
  obtain rfl := fld0 hc
  obtain rfl : n = 0 := of_decide_eq_true hn
  have he : encF ⟨48, d, s, 0, 0, 0⟩ = 242 :: byteOf (rexN false d s) :: 15 :: 89 :: byteOf (twoN d s) :: [] := rfl
  have hL : (encF ⟨48, d, s, 0, 0, 0⟩).length = 5 := by
    rw [he]
    rfl
  rw [hL, he]
  show insR (242 :: byteOf (rexN false d s) :: 15 :: 89 :: byteOf (twoN d s) :: tail : List UInt8) rd0 = _
  generalize hE : (242 :: byteOf (rexN false d s) :: 15 :: 89 :: byteOf (twoN d s) :: tail : List UInt8) = bs
  have hl : 5 ≤ bs.length := by rw [← hE]; simp only [List.length_cons]; omega
  obtain ⟨t1, t2⟩ := two_at (bs := bs) (k := 4) (w := 0) dr sr (by omega) (by rw [← hE]; exact twob)
  have hr := real_at (bs := bs) (w := 0) (b := false) (f := 242) rfl dr sr (by decide) (by omega) (by rw [← hE]; exact rfl) (by rw [← hE]; exact rexb dr sr) (by rw [← hE]; exact rfl)
  have b3 : byteAt bs 3 = 89 := (by rw [← hE]; exact rfl)
  rw [hr, b3]
  refine (show realIn bs 242 (⟨0, d / 8 * 8, s / 8 * 8⟩ : Rx) 89 (R0 4) = (⟨48, (twoV bs (⟨0, d / 8 * 8, s / 8 * 8⟩ : Rx) (R0 4)).1, (twoV bs (⟨0, d / 8 * 8, s / 8 * 8⟩ : Rx) (R0 4)).2, 0, 0, 0⟩, twoD bs (R0 4)) from rfl).trans ?_
  rw [t1, t2]
theorem back55 {d s c z n k : Int} (h : fitsF ⟨49, 0, 242, true, 0, [15, 92], 3, 0, 1, 2, 0, 0⟩ ⟨k, d, s, c, z, n⟩ = true) (hI : I64 n) (tail : List UInt8) : insR (encF ⟨k, d, s, c, z, n⟩ ++ tail) rd0 = (⟨k, d, s, c, z, n⟩, R0 (encF ⟨k, d, s, c, z, n⟩).length) := by
  simp only [fitsF, Bool.and_eq_true, decide_eq_true_eq] at h
  obtain ⟨⟨⟨⟨⟨hk, hz⟩, hd⟩, hs⟩, hc⟩, hn⟩ := h
  subst hk; subst hz
  have dr := field_range hd
  have sr := field_range hs
  obtain rfl := fld0 hc
  obtain rfl : n = 0 := of_decide_eq_true hn
  have he : encF ⟨49, d, s, 0, 0, 0⟩ = 242 :: byteOf (rexN false d s) :: 15 :: 92 :: byteOf (twoN d s) :: [] := rfl
  have hL : (encF ⟨49, d, s, 0, 0, 0⟩).length = 5 := by
    rw [he]
    rfl
  rw [hL, he]
  show insR (242 :: byteOf (rexN false d s) :: 15 :: 92 :: byteOf (twoN d s) :: tail : List UInt8) rd0 = _
  generalize hE : (242 :: byteOf (rexN false d s) :: 15 :: 92 :: byteOf (twoN d s) :: tail : List UInt8) = bs
  have hl : 5 ≤ bs.length := by rw [← hE]; simp only [List.length_cons]; omega
  obtain ⟨t1, t2⟩ := two_at (bs := bs) (k := 4) (w := 0) dr sr (by omega) (by rw [← hE]; exact twob)
  have hr := real_at (bs := bs) (w := 0) (b := false) (f := 242) rfl dr sr (by decide) (by omega) (by rw [← hE]; exact rfl) (by rw [← hE]; exact rexb dr sr) (by rw [← hE]; exact rfl)
  have b3 : byteAt bs 3 = 92 := (by rw [← hE]; exact rfl)
  rw [hr, b3]
  refine (show realIn bs 242 (⟨0, d / 8 * 8, s / 8 * 8⟩ : Rx) 92 (R0 4) = (⟨49, (twoV bs (⟨0, d / 8 * 8, s / 8 * 8⟩ : Rx) (R0 4)).1, (twoV bs (⟨0, d / 8 * 8, s / 8 * 8⟩ : Rx) (R0 4)).2, 0, 0, 0⟩, twoD bs (R0 4)) from rfl).trans ?_
  rw [t1, t2]
theorem back56 {d s c z n k : Int} (h : fitsF ⟨50, 0, 242, true, 0, [15, 94], 3, 0, 1, 2, 0, 0⟩ ⟨k, d, s, c, z, n⟩ = true) (hI : I64 n) (tail : List UInt8) : insR (encF ⟨k, d, s, c, z, n⟩ ++ tail) rd0 = (⟨k, d, s, c, z, n⟩, R0 (encF ⟨k, d, s, c, z, n⟩).length) := by
  simp only [fitsF, Bool.and_eq_true, decide_eq_true_eq] at h
  obtain ⟨⟨⟨⟨⟨hk, hz⟩, hd⟩, hs⟩, hc⟩, hn⟩ := h
  subst hk; subst hz
  have dr := field_range hd
  have sr := field_range hs
  obtain rfl := fld0 hc
  obtain rfl : n = 0 := of_decide_eq_true hn
  have he : encF ⟨50, d, s, 0, 0, 0⟩ = 242 :: byteOf (rexN false d s) :: 15 :: 94 :: byteOf (twoN d s) :: [] := rfl
  have hL : (encF ⟨50, d, s, 0, 0, 0⟩).length = 5 := by
    rw [he]
    rfl
  rw [hL, he]
  show insR (242 :: byteOf (rexN false d s) :: 15 :: 94 :: byteOf (twoN d s) :: tail : List UInt8) rd0 = _
  generalize hE : (242 :: byteOf (rexN false d s) :: 15 :: 94 :: byteOf (twoN d s) :: tail : List UInt8) = bs
  have hl : 5 ≤ bs.length := by rw [← hE]; simp only [List.length_cons]; omega
  obtain ⟨t1, t2⟩ := two_at (bs := bs) (k := 4) (w := 0) dr sr (by omega) (by rw [← hE]; exact twob)
  have hr := real_at (bs := bs) (w := 0) (b := false) (f := 242) rfl dr sr (by decide) (by omega) (by rw [← hE]; exact rfl) (by rw [← hE]; exact rexb dr sr) (by rw [← hE]; exact rfl)
  have b3 : byteAt bs 3 = 94 := (by rw [← hE]; exact rfl)
  rw [hr, b3]
  refine (show realIn bs 242 (⟨0, d / 8 * 8, s / 8 * 8⟩ : Rx) 94 (R0 4) = (⟨50, (twoV bs (⟨0, d / 8 * 8, s / 8 * 8⟩ : Rx) (R0 4)).1, (twoV bs (⟨0, d / 8 * 8, s / 8 * 8⟩ : Rx) (R0 4)).2, 0, 0, 0⟩, twoD bs (R0 4)) from rfl).trans ?_
  rw [t1, t2]
theorem back57 {d s c z n k : Int} (h : fitsF ⟨51, 0, 102, true, 0, [15, 46], 3, 0, 1, 2, 0, 0⟩ ⟨k, d, s, c, z, n⟩ = true) (hI : I64 n) (tail : List UInt8) : insR (encF ⟨k, d, s, c, z, n⟩ ++ tail) rd0 = (⟨k, d, s, c, z, n⟩, R0 (encF ⟨k, d, s, c, z, n⟩).length) := by
  simp only [fitsF, Bool.and_eq_true, decide_eq_true_eq] at h
  obtain ⟨⟨⟨⟨⟨hk, hz⟩, hd⟩, hs⟩, hc⟩, hn⟩ := h
  subst hk; subst hz
  have dr := field_range hd
  have sr := field_range hs
  obtain rfl := fld0 hc
  obtain rfl : n = 0 := of_decide_eq_true hn
  have he : encF ⟨51, d, s, 0, 0, 0⟩ = 102 :: byteOf (rexN false d s) :: 15 :: 46 :: byteOf (twoN d s) :: [] := rfl
  have hL : (encF ⟨51, d, s, 0, 0, 0⟩).length = 5 := by
    rw [he]
    rfl
  rw [hL, he]
  show insR (102 :: byteOf (rexN false d s) :: 15 :: 46 :: byteOf (twoN d s) :: tail : List UInt8) rd0 = _
  generalize hE : (102 :: byteOf (rexN false d s) :: 15 :: 46 :: byteOf (twoN d s) :: tail : List UInt8) = bs
  have hl : 5 ≤ bs.length := by rw [← hE]; simp only [List.length_cons]; omega
  obtain ⟨t1, t2⟩ := two_at (bs := bs) (k := 4) (w := 0) dr sr (by omega) (by rw [← hE]; exact twob)
  have hr := real_at (bs := bs) (w := 0) (b := false) (f := 102) rfl dr sr (by decide) (by omega) (by rw [← hE]; exact rfl) (by rw [← hE]; exact rexb dr sr) (by rw [← hE]; exact rfl)
  have b3 : byteAt bs 3 = 46 := (by rw [← hE]; exact rfl)
  rw [hr, b3]
  refine (show realIn bs 102 (⟨0, d / 8 * 8, s / 8 * 8⟩ : Rx) 46 (R0 4) = (⟨51, (twoV bs (⟨0, d / 8 * 8, s / 8 * 8⟩ : Rx) (R0 4)).1, (twoV bs (⟨0, d / 8 * 8, s / 8 * 8⟩ : Rx) (R0 4)).2, 0, 0, 0⟩, twoD bs (R0 4)) from rfl).trans ?_
  rw [t1, t2]
theorem back58 {d s c z n k : Int} (h : fitsF ⟨52, 0, 242, true, 1, [15, 42], 3, 0, 1, 2, 0, 0⟩ ⟨k, d, s, c, z, n⟩ = true) (hI : I64 n) (tail : List UInt8) : insR (encF ⟨k, d, s, c, z, n⟩ ++ tail) rd0 = (⟨k, d, s, c, z, n⟩, R0 (encF ⟨k, d, s, c, z, n⟩).length) := by
  simp only [fitsF, Bool.and_eq_true, decide_eq_true_eq] at h
  obtain ⟨⟨⟨⟨⟨hk, hz⟩, hd⟩, hs⟩, hc⟩, hn⟩ := h
  subst hk; subst hz
  have dr := field_range hd
  have sr := field_range hs
  obtain rfl := fld0 hc
  obtain rfl : n = 0 := of_decide_eq_true hn
  have he : encF ⟨52, d, s, 0, 0, 0⟩ = 242 :: byteOf (rexN true d s) :: 15 :: 42 :: byteOf (twoN d s) :: [] := rfl
  have hL : (encF ⟨52, d, s, 0, 0, 0⟩).length = 5 := by
    rw [he]
    rfl
  rw [hL, he]
  show insR (242 :: byteOf (rexN true d s) :: 15 :: 42 :: byteOf (twoN d s) :: tail : List UInt8) rd0 = _
  generalize hE : (242 :: byteOf (rexN true d s) :: 15 :: 42 :: byteOf (twoN d s) :: tail : List UInt8) = bs
  have hl : 5 ≤ bs.length := by rw [← hE]; simp only [List.length_cons]; omega
  obtain ⟨t1, t2⟩ := two_at (bs := bs) (k := 4) (w := 1) dr sr (by omega) (by rw [← hE]; exact twob)
  have hr := real_at (bs := bs) (w := 1) (b := true) (f := 242) rfl dr sr (by decide) (by omega) (by rw [← hE]; exact rfl) (by rw [← hE]; exact rexb dr sr) (by rw [← hE]; exact rfl)
  have b3 : byteAt bs 3 = 42 := (by rw [← hE]; exact rfl)
  rw [hr, b3]
  refine (show realIn bs 242 (⟨1, d / 8 * 8, s / 8 * 8⟩ : Rx) 42 (R0 4) = (⟨52, (twoV bs (⟨1, d / 8 * 8, s / 8 * 8⟩ : Rx) (R0 4)).1, (twoV bs (⟨1, d / 8 * 8, s / 8 * 8⟩ : Rx) (R0 4)).2, 0, 0, 0⟩, twoD bs (R0 4)) from rfl).trans ?_
  rw [t1, t2]
theorem back_enc {i : Ins} (hv : validF i = true) (hI : I64 i.imm) (tail : List UInt8) : insR (encF i ++ tail) rd0 = (i, R0 (encF i).length) := by
  obtain ⟨f, hf, h⟩ := valid_form hv
  obtain ⟨k, d, s, c, z, n⟩ := i
  simp only [formsF, List.mem_cons, List.not_mem_nil, or_false] at hf
  rcases hf with rfl | rfl | rfl | rfl | rfl | rfl | rfl | rfl | rfl | rfl | rfl | rfl | rfl | rfl | rfl | rfl | rfl | rfl | rfl | rfl | rfl | rfl | rfl | rfl | rfl | rfl | rfl | rfl | rfl | rfl | rfl | rfl | rfl | rfl | rfl | rfl | rfl | rfl | rfl | rfl | rfl | rfl | rfl | rfl | rfl | rfl | rfl | rfl | rfl | rfl | rfl | rfl | rfl | rfl | rfl | rfl | rfl | rfl | rfl
  · exact back0 h hI tail
  · exact back1 h hI tail
  · exact back2 h hI tail
  · exact back3 h hI tail
  · exact back4 h hI tail
  · exact back5 h hI tail
  · exact back6 h hI tail
  · exact back7 h hI tail
  · exact back8 h hI tail
  · exact back9 h hI tail
  · exact back10 h hI tail
  · exact back11 h hI tail
  · exact back12 h hI tail
  · exact back13 h hI tail
  · exact back14 h hI tail
  · exact back15 h hI tail
  · exact back16 h hI tail
  · exact back17 h hI tail
  · exact back18 h hI tail
  · exact back19 h hI tail
  · exact back20 h hI tail
  · exact back21 h hI tail
  · exact back22 h hI tail
  · exact back23 h hI tail
  · exact back24 h hI tail
  · exact back25 h hI tail
  · exact back26 h hI tail
  · exact back27 h hI tail
  · exact back28 h hI tail
  · exact back29 h hI tail
  · exact back30 h hI tail
  · exact back31 h hI tail
  · exact back32 h hI tail
  · exact back33 h hI tail
  · exact back34 h hI tail
  · exact back35 h hI tail
  · exact back36 h hI tail
  · exact back37 h hI tail
  · exact back38 h hI tail
  · exact back39 h hI tail
  · exact back40 h hI tail
  · exact back41 h hI tail
  · exact back42 h hI tail
  · exact back43 h hI tail
  · exact back44 h hI tail
  · exact back45 h hI tail
  · exact back46 h hI tail
  · exact back47 h hI tail
  · exact back48 h hI tail
  · exact back49 h hI tail
  · exact back50 h hI tail
  · exact back51 h hI tail
  · exact back52 h hI tail
  · exact back53 h hI tail
  · exact back54 h hI tail
  · exact back55 h hI tail
  · exact back56 h hI tail
  · exact back57 h hI tail
  · exact back58 h hI tail
theorem dec_enc {i : Ins} (hv : validF i = true) (hI : I64 i.imm) (tail : List UInt8) : decI (encF i ++ tail) = i ∧ decN (encF i ++ tail) = (encF i).length ∧ decE (encF i ++ tail) = 0 := by
  have h := back_enc hv hI tail
  have hno : ¬ ((insR (encF i ++ tail) rd0).2.wrong = true ∨ (insR (encF i ++ tail) rd0).2.cut = true) := by
    rw [h]
    show ¬ (false = true ∨ false = true)
    decide
  rw [decI, decN, decE, if_neg hno, if_neg hno, if_neg (fun q => hno (.inl q)), if_neg (fun q => hno (.inr q)), h]
  exact ⟨rfl, rfl, rfl⟩
end Go.Proofs.YtjndpakhmgapjaaDoor

namespace Go.Proofs.YtjndpakhmgapjaaDoor
open Go Go.RowKit
set_option linter.unusedSimpArgs false
set_option linter.unusedVariables false
set_option linter.unnecessarySimpa false
def Cutd (r : Rd) : Prop := r.cut = true ∧ r.wrong = false
theorem next_cut {bs : List UInt8} {r : Rd} (h : Cutd r) : nextF bs r = (0, r) := by
  rw [nextF, if_pos (by rw [h.1]; rfl)]
theorem must_cut {r : Rd} (h : Cutd r) (is : Bool) : mustF r is = r := by
  rw [mustF, if_neg (by rw [h.1]; exact fun q => Bool.noConfusion q)]
theorem must_at (r : Rd) (is : Bool) : (mustF r is).at_ = r.at_ := by
  unfold mustF
  split <;> rfl
theorem imm_cut {bs : List UInt8} {r : Rd} (h : Cutd r) : ∀ k, (immS bs r k).2 = r
  | 0 => rfl
  | k + 1 => by
    show (nextF bs (immS bs r k).2).2 = r
    rw [imm_cut h k, next_cut h]
theorem immD_cut {bs : List UInt8} {r : Rd} (h : Cutd r) (k : Nat) : immD bs r k = r := imm_cut h k
/-! ### the first bytes -/
section
variable {bs : List UInt8} {k : Nat}
/-- As it is, or cut. -/
def As (k : Nat) {α : Type} (p p' : α × Rd) : Prop := (p' = p ∧ p.2.at_ ≤ k) ∨ Cutd p'.2
theorem byte_take {j : Nat} (h : j < k) : byteAt (bs.take k) j = byteAt bs j := by
  unfold byteAt
  rw [List.getD_eq_getElem?_getD, List.getD_eq_getElem?_getD, List.getElem?_take, if_pos h]
theorem next_as (hk : k ≤ bs.length) {r : Rd} (hr : r.at_ ≤ k) : As k (nextF bs r) (nextF (bs.take k) r) := by
  have hl : (bs.take k).length = k := by rw [List.length_take]; omega
  by_cases hc : (r.cut || r.wrong) = true
  · refine .inl ⟨?_, ?_⟩
    · rw [nextF, if_pos hc, nextF, if_pos hc]
    · rw [nextF, if_pos hc]; exact hr
  · by_cases he : r.at_ = k
    · refine .inr ?_
      rw [nextF, if_neg hc, if_pos (by omega)]
      refine ⟨rfl, ?_⟩
      show r.wrong = false
      cases h : r.wrong
      · rfl
      · rw [h, Bool.or_true] at hc; exact absurd rfl hc
    · refine .inl ⟨?_, ?_⟩
      · rw [nextF, if_neg hc, if_neg (by omega), nextF, if_neg hc, if_neg (by omega), byte_take (by omega)]
      · rw [nextF, if_neg hc, if_neg (by omega)]
        show r.at_ + 1 ≤ k
        omega
theorem imm_as (hk : k ≤ bs.length) {r : Rd} (hr : r.at_ ≤ k) : ∀ m, As k (immS bs r m) (immS (bs.take k) r m)
  | 0 => .inl ⟨rfl, hr⟩
  | m + 1 => by
    rcases imm_as hk hr m with ⟨e, h⟩ | hc
    · rcases next_as hk h with ⟨e2, h2⟩ | hc
      · refine .inl ⟨?_, h2⟩
        show ((immS (bs.take k) r m).1 + (nextF _ (immS (bs.take k) r m).2).1 * 256 ^ m, (nextF _ (immS (bs.take k) r m).2).2) = _
        rw [e, e2]
        rfl
      · refine .inr ?_
        show Cutd (nextF _ (immS (bs.take k) r m).2).2
        rw [e]; exact hc
    · refine .inr ?_
      show Cutd (nextF _ (immS (bs.take k) r m).2).2
      rw [next_cut hc]; exact hc
theorem immD_as (hk : k ≤ bs.length) {r : Rd} (hr : r.at_ ≤ k) (m : Nat) : (immV (bs.take k) r m = immV bs r m ∧ immD (bs.take k) r m = immD bs r m ∧ (immD bs r m).at_ ≤ k) ∨ Cutd (immD (bs.take k) r m) := by
  unfold immV immD
  rcases imm_as hk hr m with ⟨e, h⟩ | hc
  · exact .inl ⟨by rw [e], by rw [e], h⟩
  · exact .inr hc
theorem two_as (hk : k ≤ bs.length) {r : Rd} (hr : r.at_ ≤ k) (x : Rx) : (twoV (bs.take k) x r = twoV bs x r ∧ twoD (bs.take k) r = twoD bs r ∧ (twoD bs r).at_ ≤ k) ∨ Cutd (twoD (bs.take k) r) := by
  unfold twoV twoD
  rcases next_as hk hr with ⟨e, h⟩ | hc
  · exact .inl ⟨by rw [e], by rw [e], by rw [must_at]; exact h⟩
  · exact .inr (by rw [must_cut hc]; exact hc)
theorem one_as (hk : k ≤ bs.length) {r : Rd} (hr : r.at_ ≤ k) (x : Rx) : (oneV (bs.take k) x r = oneV bs x r ∧ oneD (bs.take k) x r = oneD bs x r ∧ (oneD bs x r).at_ ≤ k) ∨ Cutd (oneD (bs.take k) x r) := two_as hk (by rw [must_at]; exact hr) x
theorem mem_as (hk : k ≤ bs.length) {r : Rd} (hr : r.at_ ≤ k) (x : Rx) : (memV (bs.take k) x r = memV bs x r ∧ memD (bs.take k) r = memD bs r ∧ (memD bs r).at_ ≤ k) ∨ Cutd (memD (bs.take k) r) := by
  rcases next_as hk hr with ⟨e, h⟩ | hc
  · have e1 : memD1 (bs.take k) r = memD1 bs r := by unfold memD1; rw [e]
    have h1 : (memD1 bs r).at_ ≤ k := by unfold memD1; rw [must_at]; exact h
    have h2 : (memD2 (bs.take k) r = memD2 bs r ∧ (memD2 bs r).at_ ≤ k) ∨ Cutd (memD2 (bs.take k) r) := by
      unfold memD2
      rw [e, e1]
      split
      · rcases next_as hk h1 with ⟨e3, h3⟩ | hc
        · exact .inl ⟨by rw [e3], by rw [must_at]; exact h3⟩
        · exact .inr (by rw [must_cut hc]; exact hc)
      · exact .inl ⟨rfl, h1⟩
    rcases h2 with ⟨e2, h2⟩ | hc
    · rcases immD_as hk h2 4 with ⟨v, d, h4⟩ | hc
      · exact .inl ⟨by unfold memV; rw [e, e2, v], by unfold memD; rw [e2, d], h4⟩
      · exact .inr (by unfold memD; rw [e2]; exact hc)
    · exact .inr (by unfold memD; rw [immD_cut hc]; exact hc)
  · have h1 : Cutd (memD1 (bs.take k) r) := by unfold memD1; rw [must_cut hc]; exact hc
    have h2 : Cutd (memD2 (bs.take k) r) := by
      unfold memD2
      split
      · rw [next_cut h1, must_cut h1]; exact h1
      · exact h1
    exact .inr (by unfold memD; rw [immD_cut h2]; exact h2)
theorem must_as {r : Rd} (hr : r.at_ ≤ k) (is : Bool) : (mustF r is).at_ ≤ k := by rw [must_at]; exact hr
theorem peek_as {r : Rd} (hr : r.at_ < k) (hk : k ≤ bs.length) : peekF (bs.take k) r = peekF bs r := by
  unfold peekF
  have hl : (bs.take k).length = k := by rw [List.length_take]; omega
  rw [hl, byte_take hr, decide_eq_true (show (r.at_ : Int) < (k : Int) by omega), decide_eq_true (show (r.at_ : Int) < (bs.length : Int) by omega)]
theorem peek_end {r : Rd} (hr : r.at_ = k) (hk : k ≤ bs.length) : peekF (bs.take k) r = false := by
  unfold peekF
  have hl : (bs.take k).length = k := by rw [List.length_take]; omega
  rw [hl, decide_eq_false (show ¬ (r.at_ : Int) < (k : Int) by omega)]
  rfl
theorem next_wrong {r : Rd} (h : r.wrong = true) : nextF bs r = (0, r) := by
  rw [nextF, if_pos (by rw [h, Bool.or_true])]
theorem must_wrong {r : Rd} (h : r.wrong = true) (is : Bool) : mustF r is = r := by
  unfold mustF
  split
  · cases r; cases h; rfl
  · rfl
theorem imm_wrong {r : Rd} (h : r.wrong = true) : ∀ k, (immS bs r k).2 = r
  | 0 => rfl
  | k + 1 => by
    show (nextF bs (immS bs r k).2).2 = r
    rw [imm_wrong h k, next_wrong h]
theorem two_wrong {r : Rd} (h : r.wrong = true) : twoD bs r = r := by
  rw [twoD, next_wrong h, must_wrong h]
theorem mem_wrong {r : Rd} (h : r.wrong = true) : memD bs r = r := by
  have h1 : memD1 bs r = r := by rw [memD1, next_wrong h, must_wrong h]
  have h2 : memD2 bs r = r := by
    rw [memD2, h1, next_wrong h]
    split
    · rw [must_wrong h]
    · rfl
  rw [memD, h2]
  exact imm_wrong h 4
/-- As it is, or cut, or wrong from the beginning. -/
def As3 (k : Nat) (p p' : Ins × Rd) : Prop := (p' = p ∧ p.2.at_ ≤ k) ∨ Cutd p'.2 ∨ p.2.wrong = true
theorem As3.same {p p' : Ins × Rd} (e : p' = p) (h : p.2.at_ ≤ k) : As3 k p p' := .inl ⟨e, h⟩
theorem As3.cut {p p' : Ins × Rd} (h : Cutd p'.2) : As3 k p p' := .inr (.inl h)
theorem As3.wrong {p p' : Ins × Rd} (h : p.2.wrong = true) : As3 k p p' := .inr (.inr h)
theorem end_cut {r : Rd} (h : r.wrong = false) (hr : r.at_ = k) (hk : k ≤ bs.length) : Cutd (nextF (bs.take k) r).2 := by
  have hl : (bs.take k).length = k := by rw [List.length_take]; omega
  unfold nextF
  split
  · rename_i hc
    rw [h, Bool.or_false] at hc
    exact ⟨hc, h⟩
  · rw [if_pos (by omega)]
    exact ⟨rfl, h⟩
theorem moved_as (hk : k ≤ bs.length) {r : Rd} (hr : r.at_ ≤ k) (x : Rx) : As3 k (movedR bs x r) (movedR (bs.take k) x r) := by
  by_cases hw : r.wrong = true
  · refine .wrong ?_
    unfold movedR
    split
    · show (memD bs r).wrong = true; rw [mem_wrong hw]; exact hw
    · show (twoD bs r).wrong = true; rw [two_wrong hw]; exact hw
  have hw : r.wrong = false := by cases h : r.wrong; rfl; exact absurd h hw
  by_cases he : r.at_ = k
  · refine .cut ?_
    have hn := end_cut hw he hk
    unfold movedR
    rw [peek_end he hk, if_neg (fun q => Bool.noConfusion q)]
    show Cutd (twoD (bs.take k) r)
    unfold twoD
    rw [must_cut hn]; exact hn
  · unfold movedR
    rw [peek_as (by omega) hk]
    split
    · rcases mem_as hk hr x with ⟨v, d, h⟩ | hc
      · exact .same (by rw [v, d]) h
      · exact .cut hc
    · rcases two_as hk hr x with ⟨v, d, h⟩ | hc
      · exact .same (by rw [v, d]) h
      · exact .cut hc
theorem numbered_as (hk : k ≤ bs.length) {r : Rd} (hr : r.at_ ≤ k) (x : Rx) (op : Int) : As3 k (numberedR bs x op r) (numberedR (bs.take k) x op r) := by
  rcases one_as hk hr x with ⟨v, d, h⟩ | hc
  · have hd : numD1 (bs.take k) x op r = numD1 bs x op r := by unfold numD1; rw [v, d]
    have h1 : (numD1 bs x op r).at_ ≤ k := by unfold numD1; rw [must_at]; exact h
    unfold numberedR
    rw [v, hd]
    split
    · rcases immD_as hk h1 4 with ⟨v2, d2, h2⟩ | hc
      · exact .same (by rw [v2, d2]) h2
      · exact .cut hc
    split
    · rcases immD_as hk h1 1 with ⟨v2, d2, h2⟩ | hc
      · exact .same (by rw [v2, d2]) (must_as h2 _)
      · exact .cut (by dsimp only; rw [must_cut hc]; exact hc)
    · exact .same rfl h1
  · refine .cut ?_
    have h1 : Cutd (numD1 (bs.take k) x op r) := by unfold numD1; rw [must_cut hc]; exact hc
    unfold numberedR
    split
    · show Cutd (immD _ _ 4); rw [immD_cut h1]; exact h1
    split
    · show Cutd (mustF (immD _ _ 1) _); rw [immD_cut h1, must_cut h1]; exact h1
    · exact h1
theorem narrow_as (hk : k ≤ bs.length) {r : Rd} (hr : r.at_ ≤ k) (x : Rx) (op : Int) : As3 k (narrowR bs x op r) (narrowR (bs.take k) x op r) := by
  unfold narrowR
  split
  · rcases mem_as hk hr x with ⟨v, d, h⟩ | hc
    · exact .same (by rw [v, d]) h
    · exact .cut hc
  split
  · rcases mem_as hk hr x with ⟨v, d, h⟩ | hc
    · exact .same (by rw [v, d]) h
    · exact .cut hc
  split
  · rcases mem_as hk hr x with ⟨v, d, h⟩ | hc
    · exact .same (by rw [v, d]) h
    · exact .cut hc
  split
  · rcases one_as hk hr x with ⟨v, d, h⟩ | hc
    · exact .same (by rw [v, d]) (must_as h _)
    · exact .cut (by dsimp only; rw [must_cut hc]; exact hc)
  split
  · exact .same rfl (must_as hr _)
  split
  · exact .same rfl (must_as hr _)
  · exact .same rfl (must_as hr _)
theorem farIn_as (hk : k ≤ bs.length) {r : Rd} (hr : r.at_ ≤ k) (x : Rx) (op : Int) : As3 k (farIn bs x op r) (farIn (bs.take k) x op r) := by
  unfold farIn
  split
  · rcases one_as hk hr x with ⟨v, d, h⟩ | hc
    · exact .same (by rw [v, d]) (must_as h _)
    · exact .cut (by dsimp only; rw [must_cut hc]; exact hc)
  split
  · rcases two_as hk hr x with ⟨v, d, h⟩ | hc
    · exact .same (by rw [v, d]) h
    · exact .cut hc
  split
  · rcases two_as hk hr x with ⟨v, d, h⟩ | hc
    · exact .same (by rw [v, d]) h
    · exact .cut hc
  split
  · by_cases hw : r.wrong = true
    · refine .wrong ?_
      split
      · show (memD bs r).wrong = true; rw [mem_wrong hw]; exact hw
      · show (twoD bs r).wrong = true; rw [two_wrong hw]; exact hw
    have hw : r.wrong = false := by cases h : r.wrong; rfl; exact absurd h hw
    by_cases he : r.at_ = k
    · refine .cut ?_
      have hn := end_cut hw he hk
      rw [peek_end he hk, if_neg (fun q => Bool.noConfusion q)]
      show Cutd (twoD (bs.take k) r)
      unfold twoD
      rw [must_cut hn]; exact hn
    · rw [peek_as (by omega) hk]
      split
      · rcases mem_as hk hr x with ⟨v, d, h⟩ | hc
        · exact .same (by rw [v, d]) h
        · exact .cut hc
      · rcases two_as hk hr x with ⟨v, d, h⟩ | hc
        · exact .same (by rw [v, d]) h
        · exact .cut hc
  · exact .same rfl (must_as hr _)
theorem far_as (hk : k ≤ bs.length) {r : Rd} (hr : r.at_ ≤ k) (x : Rx) : As3 k (farR bs x r) (farR (bs.take k) x r) := by
  have h1 : (farD1 x r).at_ ≤ k := must_as hr _
  unfold farR
  rcases next_as hk h1 with ⟨e, h⟩ | hc
  · rw [e]
    split
    · exact .same rfl h
    · exact farIn_as hk h x _
  · rw [if_pos (by rw [hc.1]; rfl : ((nextF (bs.take k) (farD1 x r)).2.cut || (nextF (bs.take k) (farD1 x r)).2.wrong) = true)]
    exact .cut hc
theorem realIn_as (hk : k ≤ bs.length) {r : Rd} (hr : r.at_ ≤ k) (f : Int) (x : Rx) (op : Int) : As3 k (realIn bs f x op r) (realIn (bs.take k) f x op r) := by
  unfold realIn
  split
  · rcases two_as hk hr x with ⟨v, d, h⟩ | hc
    · exact .same (by rw [v, d]) h
    · exact .cut hc
  · rcases two_as hk (must_as hr _) x with ⟨v, d, h⟩ | hc
    · exact .same (by rw [v, d]) h
    · exact .cut hc
theorem real_as (hk : k ≤ bs.length) {r : Rd} (hr : r.at_ ≤ k) (f : Int) : As3 k (realR bs f r) (realR (bs.take k) f r) := by
  unfold realR
  rcases next_as hk hr with ⟨e, h⟩ | hc
  · rw [e]
    split
    · exact .same rfl h
    · have e1 : realD1 (bs.take k) r = realD1 bs r := by unfold realD1; rw [e]
      have h1 : (realD1 bs r).at_ ≤ k := by unfold realD1; exact must_as h _
      rcases next_as hk h1 with ⟨e2, h2⟩ | hc
      · have e3 : realD2 (bs.take k) r = realD2 bs r := by unfold realD2; rw [e1, e2]
        have h3 : (realD2 bs r).at_ ≤ k := by unfold realD2; exact must_as h2 _
        rw [e3]
        rcases next_as hk h3 with ⟨e4, h4⟩ | hc
        · rw [e4]
          split
          · exact .same rfl h4
          · exact realIn_as hk h4 f _ _
        · rw [if_pos (by rw [hc.1]; rfl : ((nextF (bs.take k) (realD2 bs r)).2.cut || (nextF (bs.take k) (realD2 bs r)).2.wrong) = true)]
          exact .cut hc
      · have hc3 : Cutd (nextF (bs.take k) (realD2 (bs.take k) r)).2 := by
          have : Cutd (realD2 (bs.take k) r) := by unfold realD2; rw [e1, must_cut hc]; exact hc
          rw [next_cut this]; exact this
        rw [if_pos (by rw [hc3.1]; rfl : ((nextF (bs.take k) (realD2 (bs.take k) r)).2.cut || (nextF (bs.take k) (realD2 (bs.take k) r)).2.wrong) = true)]
        exact .cut hc3
  · rw [if_pos hc.1]
    exact .cut hc
theorem prefIn_as (hk : k ≤ bs.length) {r : Rd} (hr : r.at_ ≤ k) (x : Rx) (op : Int) : As3 k (prefIn bs x op r) (prefIn (bs.take k) x op r) := by
  unfold prefIn
  split
  · exact far_as hk hr x
  split
  · exact narrow_as hk hr x op
  split
  · rcases immD_as hk (must_as hr (decide (x.reg = 0))) 8 with ⟨v, d, h⟩ | hc
    · exact .same (by rw [v, d]) (must_as h _)
    · exact .cut (by dsimp only; rw [must_cut hc]; exact hc)
  split
  · rcases mem_as hk hr x with ⟨v, d, h⟩ | hc
    · exact .same (by rw [v, d]) h
    · exact .cut hc
  split
  · rcases mem_as hk hr x with ⟨v, d, h⟩ | hc
    · exact .same (by rw [v, d]) h
    · exact .cut hc
  split
  · exact moved_as hk hr x
  split
  · rcases one_as hk hr x with ⟨v, d, h⟩ | hc
    · rw [v, d]
      rcases immD_as hk (must_as h (decide ((oneV bs x r).1 = 0))) 4 with ⟨v2, d2, h2⟩ | hc
      · exact .same (by rw [v2, d2]) h2
      · exact .cut hc
    · exact .cut (by dsimp only; rw [must_cut hc, immD_cut hc]; exact hc)
  split
  · exact numbered_as hk hr x op
  split
  · rcases two_as hk hr x with ⟨v, d, h⟩ | hc
    · exact .same (by rw [v, d]) h
    · exact .cut hc
  · exact .same rfl (must_as hr _)
theorem pref_as (hk : k ≤ bs.length) {r : Rd} (hr : r.at_ ≤ k) (x : Rx) : As3 k (prefR bs x r) (prefR (bs.take k) x r) := by
  unfold prefR
  rcases next_as hk hr with ⟨e, h⟩ | hc
  · rw [e]
    split
    · exact .same rfl h
    · exact prefIn_as hk h x _
  · rw [if_pos (by rw [hc.1]; rfl : ((nextF (bs.take k) r).2.cut || (nextF (bs.take k) r).2.wrong) = true)]
    exact .cut hc
theorem insTwo_as (hk : k ≤ bs.length) {r : Rd} (hr : r.at_ ≤ k) : As3 k (insTwo bs r) (insTwo (bs.take k) r) := by
  rcases next_as hk hr with ⟨e, h⟩ | hc
  · unfold insTwo
    rw [e]
    split
    · exact .same rfl h
    split
    · exact .same rfl h
    split
    · rcases immD_as hk h 4 with ⟨v, d, h⟩ | hc
      · exact .same (by rw [v, d]) h
      · exact .cut hc
    · exact .same rfl (must_as h _)
  · refine .cut ?_
    unfold insTwo
    split
    · exact hc
    split
    · exact hc
    split
    · show Cutd (immD _ _ 4); rw [immD_cut hc]; exact hc
    · show Cutd (mustF _ false); rw [must_cut hc]; exact hc
theorem insIn_as (hk : k ≤ bs.length) {r : Rd} (hr : r.at_ ≤ k) (x : Int) : As3 k (insIn bs x r) (insIn (bs.take k) x r) := by
  unfold insIn
  split
  · exact pref_as hk (must_as hr _) _
  split
  · exact real_as hk hr x
  split
  · rcases immD_as hk hr 1 with ⟨v, d, h⟩ | hc
    · exact .same (by rw [v, d]) h
    · exact .cut hc
  split
  · rcases immD_as hk hr 1 with ⟨v, d, h⟩ | hc
    · exact .same (by rw [v, d]) h
    · exact .cut hc
  split
  · rcases immD_as hk hr 4 with ⟨v, d, h⟩ | hc
    · exact .same (by rw [v, d]) h
    · exact .cut hc
  split
  · rcases immD_as hk hr 4 with ⟨v, d, h⟩ | hc
    · exact .same (by rw [v, d]) h
    · exact .cut hc
  split
  · exact .same rfl hr
  split
  · exact insTwo_as hk hr
  · exact .same rfl (must_as hr _)
theorem ins_as (hk : k ≤ bs.length) {r : Rd} (hr : r.at_ ≤ k) : As3 k (insR bs r) (insR (bs.take k) r) := by
  unfold insR
  rcases next_as hk hr with ⟨e, h⟩ | hc
  · rw [e]
    split
    · exact .same rfl h
    · exact insIn_as hk h _
  · rw [if_pos hc.1]
    exact .cut hc
end
theorem dec_cut {i : Ins} (hv : validF i = true) (hI : I64 i.imm) {k : Nat} (hk : k < (encF i).length) : decE ((encF i).take k) = 202 := by
  have hb := back_enc hv hI []
  rw [List.append_nil] at hb
  have h := ins_as (bs := encF i) (k := k) (by omega) (r := rd0) (Nat.zero_le k)
  rw [hb] at h
  rcases h with ⟨_, h⟩ | h | h
  · exact absurd (show (encF i).length ≤ k from h) (by omega)
  · rw [decE, if_neg (by rw [h.2]; exact fun q => Bool.noConfusion q), if_pos h.1]
  · exact absurd (show false = true from h) (fun q => Bool.noConfusion q)
end Go.Proofs.YtjndpakhmgapjaaDoor

namespace Go.Proofs.YtjndpakhmgapjaaDoor
open Go Go.RowKit
set_option linter.unusedSimpArgs false
set_option linter.unusedVariables false
set_option linter.unnecessarySimpa false
theorem enc_pos {i : Ins} (hv : validF i = true) (hI : I64 i.imm) : 0 < (encF i).length := by
  cases h : encF i with
  | cons a r => exact Nat.succ_pos _
  | nil =>
    exfalso
    have hb := back_enc hv hI []
    rw [h] at hb
    have h2 := congrArg (fun p : Ins × Rd => p.2.cut) hb
    exact Bool.noConfusion (show true = false from h2)
structure Good (l : List Ins) : Prop where
  valid : ∀ x ∈ l, validF x = true
  imm : ∀ x ∈ l, I64 x.imm
theorem take_rest {α : Type} (l : List α) (k : Nat) : (l.drop k).take (l.length - k) = l.drop k := List.take_of_length_le (by rw [List.length_drop]; omega)
end Go.Proofs.YtjndpakhmgapjaaDoor

namespace Go.Proofs.YtjndpakhmgapjaaDoor
open Go Go.RowKit
set_option linter.unusedSimpArgs false
set_option linter.unusedVariables false
set_option linter.unnecessarySimpa false
def Ok (r : Rd) : Prop := r.cut = false ∧ r.wrong = false
section
variable {bs : List UInt8} {r : Rd} {l : List UInt8}
theorem ok_next (h : Ok (nextF bs r).2) : Ok r := by
  unfold nextF at h
  split at h
  · exact h
  · split at h
    · exact absurd (show true = false from h.1) (fun q => Bool.noConfusion q)
    · exact h
theorem ok_must {is : Bool} (h : Ok (mustF r is)) : Ok r ∧ is = true ∧ mustF r is = r := by
  unfold mustF at h ⊢
  by_cases hc : (!r.cut && !is) = true
  · rw [if_pos hc] at h; exact absurd (show true = false from h.2) (fun q => Bool.noConfusion q)
  · rw [if_neg hc] at h
    rw [if_neg hc]
    refine ⟨h, ?_, rfl⟩
    cases is
    · rw [h.1] at hc; exact absurd rfl hc
    · rfl
theorem ok_imm : ∀ k, Ok (immS bs r k).2 → Ok r
  | 0, h => h
  | k + 1, h => ok_imm k (ok_next h)
theorem ok_two (h : Ok (twoD bs r)) : Ok r := ok_next (ok_must h).1
theorem byte_of (b : UInt8) : byteOf (b.toNat : Int) = b := by
  unfold byteOf
  have h := u8_toNat b
  have e : ((b.toNat : Int) % 256).toNat = b.toNat := by omega
  rw [e]
  exact UInt8.ofNat_toNat
/-- So much has been read. -/
structure Pre (bs : List UInt8) (r : Rd) (l : List UInt8) : Prop where
  st : r = R0 l.length
  tk : bs.take l.length = l
theorem Pre.start (bs : List UInt8) : Pre bs rd0 [] := ⟨rfl, rfl⟩
theorem Pre.le (h : Pre bs r l) : l.length ≤ bs.length := by
  have := congrArg List.length h.tk
  rw [List.length_take] at this
  omega
theorem Pre.lt (h : Pre bs r l) (ok : Ok (nextF bs r).2) : l.length < bs.length := by
  rcases Nat.lt_or_ge l.length bs.length with g | g
  · exact g
  · exfalso
    have hl := h.le
    rw [h.st, nextF, if_neg (by show ¬ (false || false) = true; decide), if_pos (by show l.length = bs.length; omega)] at ok
    exact absurd (show true = false from ok.1) (fun q => Bool.noConfusion q)
theorem Pre.next (h : Pre bs r l) (ok : Ok (nextF bs r).2) : Pre bs (nextF bs r).2 (l ++ [byteOf (nextF bs r).1]) := by
  have hlt := h.lt ok
  obtain ⟨hr, ht⟩ := h
  subst hr
  rw [nx hlt]
  refine ⟨by rw [List.length_append]; rfl, ?_⟩
  rw [List.length_append]
  show bs.take (l.length + 1) = l ++ [byteOf (byteAt bs l.length)]
  rw [List.take_succ_eq_append_getElem hlt, ht]
  congr 2
  unfold byteAt
  rw [byte_of, List.getD_eq_getElem?_getD, List.getElem?_eq_getElem hlt]
  rfl
theorem leBytes_more : ∀ (k : Nat) (n m : Int), leBytes k (n + m * 256 ^ k) = leBytes k n
  | 0, _, _ => rfl
  | k + 1, n, m => by
    have e : n + m * 256 ^ (k + 1) = n + m * 256 ^ k * 256 := by rw [Int.pow_succ, Int.mul_assoc]
    rw [e, leBytes, leBytes, Int.add_mul_emod_self_right, Int.add_mul_ediv_right _ _ (by decide), leBytes_more k]
theorem Pre.immS (h : Pre bs r l) : ∀ k, Ok (immS bs r k).2 → Pre bs (immS bs r k).2 (l ++ leBytes k (immS bs r k).1)
  | 0, _ => by
    show Pre bs r (l ++ [])
    rw [List.append_nil]; exact h
  | k + 1, ok => by
    have h1 := Pre.immS h k (ok_next ok)
    have h2 := h1.next ok
    obtain ⟨a0, a1⟩ := imm_range bs r k
    have hp : (0 : Int) < 256 ^ k := Int.pow_pos (by decide)
    show Pre bs (nextF bs (Go.Proofs.YtjndpakhmgapjaaDoor.immS bs r k).2).2 (l ++ leBytes (k + 1) ((Go.Proofs.YtjndpakhmgapjaaDoor.immS bs r k).1 + (nextF bs (Go.Proofs.YtjndpakhmgapjaaDoor.immS bs r k).2).1 * 256 ^ k))
    rw [leBytes_succ, leBytes_more, Int.add_mul_ediv_right _ _ (by omega), Int.ediv_eq_zero_of_lt a0 a1, Int.zero_add, ← List.append_assoc]
    exact h2
theorem leBytes_sgn (k : Nat) (n : Int) : leBytes k (sgn k n) = leBytes k n := by
  unfold sgn
  split
  · rfl
  · have h := leBytes_more k n (-1)
    rw [← h]
    congr 1
    omega
theorem Pre.imm (h : Pre bs r l) (k : Nat) (ok : Ok (immD bs r k)) : Pre bs (immD bs r k) (l ++ immF (immV bs r k) k) := by
  unfold immF immV
  rw [leBytes_sgn]
  exact h.immS k ok
theorem immV1 : -128 ≤ immV bs r 1 ∧ immV bs r 1 ≤ 127 := by
  have h := imm_range bs r 1
  unfold immV sgn
  split <;> omega
theorem immV4 : smallF (immV bs r 4) = true := by
  have h := imm_range bs r 4
  unfold smallF inF immV sgn
  rw [Bool.and_eq_true, decide_eq_true_eq, decide_eq_true_eq]
  split <;> omega
theorem immV8 : I64 (immV bs r 8) := by
  have h := imm_range bs r 8
  unfold I64 immV sgn
  split <;> omega
theorem small_i64 {n : Int} (h : smallF n = true) : I64 n := by
  unfold smallF inF at h
  rw [Bool.and_eq_true, decide_eq_true_eq, decide_eq_true_eq] at h
  unfold I64
  omega
theorem I64_0 : I64 0 := by unfold I64; decide

/-! ### prefixes and registers -/
structure RxOk (x : Rx) : Prop where
  w : x.wide = 0 ∨ x.wide = 1
  p : x.reg = 0 ∨ x.reg = 8
  q : x.rm = 0 ∨ x.rm = 8
def rexB (x : Rx) : Int := 64 + x.reg / 8 * 4 + x.rm / 8 + 8 * x.wide
theorem fin256 {p : Int} (hp : 0 ≤ p ∧ p ≤ 255) (P : Int → Prop) (h : ∀ a : Fin 256, P (a.val : Int)) : P p := by
  have h2 := h ⟨p.toNat, by omega⟩
  have h3 : ((⟨p.toNat, by omega⟩ : Fin 256).val : Int) = p := by show ((p.toNat : Nat) : Int) = p; omega
  rwa [h3] at h2
set_option maxRecDepth 100000 in
theorem ands {v : Int} (hv : 0 ≤ v ∧ v ≤ 255) : (andI v 240 = 64 → andI v 2 = 0 → v = 64 + v / 4 % 2 * 4 + v % 2 + 8 * (v / 8 % 2)) ∧ (andI v 242 = 64 → v = 64 + v / 4 % 2 * 4 + v % 2 + 8 * (v / 8 % 2)) ∧ (andI v 240 = 144 → v = 144 + v % 16) ∧ (andI v 240 = 64 → v = 64 + v % 16) ∧ (andI v 240 = 112 → v = 112 + v % 16) ∧ (andI v 240 = 128 → v = 128 + v % 16) ∧ (andI v 248 = 80 → v = 80 + v % 8) ∧ (andI v 248 = 88 → v = 88 + v % 8) ∧ (andI v 248 = 184 → v = 184 + v % 8) :=
  fin256 hv (fun v => (andI v 240 = 64 → andI v 2 = 0 → v = 64 + v / 4 % 2 * 4 + v % 2 + 8 * (v / 8 % 2)) ∧ (andI v 242 = 64 → v = 64 + v / 4 % 2 * 4 + v % 2 + 8 * (v / 8 % 2)) ∧ (andI v 240 = 144 → v = 144 + v % 16) ∧ (andI v 240 = 64 → v = 64 + v % 16) ∧ (andI v 240 = 112 → v = 112 + v % 16) ∧ (andI v 240 = 128 → v = 128 + v % 16) ∧ (andI v 248 = 80 → v = 80 + v % 8) ∧ (andI v 248 = 88 → v = 88 + v % 8) ∧ (andI v 248 = 184 → v = 184 + v % 8)) (by decide +kernel)
theorem split_ok (v : Int) : RxOk (splitF v) := by
  unfold splitF
  refine ⟨?_, ?_, ?_⟩ <;> dsimp only <;> omega
theorem split_rex {v : Int} (h : v = 64 + v / 4 % 2 * 4 + v % 2 + 8 * (v / 8 % 2)) : rexB (splitF v) = v := by
  unfold rexB splitF
  dsimp only
  omega
theorem rexB1 {x : Rx} {p q : Int} (hw : x.wide = 1) (hp : p / 8 * 8 = x.reg) (hq : q / 8 * 8 = x.rm) : rexB x = rexN true p q := by
  unfold rexB rexN
  rw [← hp, ← hq, hw, if_pos rfl]
  omega
theorem rexB0 {x : Rx} {p q : Int} (hw : x.wide = 0) (hp : p / 8 * 8 = x.reg) (hq : q / 8 * 8 = x.rm) : rexB x = rexN false p q := by
  unfold rexB rexN
  rw [← hp, ← hq, hw, if_neg (fun q => Bool.noConfusion q)]
  omega
theorem or_part {c : Int} (hc : c = 0 ∨ c = 8) (a : Int) : orI c (a % 8) = c + a % 8 := by
  rcases hc with rfl | rfl
  · exact fin8 (fun a => orI 0 a = 0 + a) (by decide)
  · exact fin8 (fun a => orI 8 a = 8 + a) (by decide)
theorem Pre.two (h : Pre bs r l) {x : Rx} (hx : RxOk x) (ok : Ok (twoD bs r)) : ∃ p q, twoV bs x r = (p, q) ∧ (0 ≤ p ∧ p ≤ 15) ∧ (0 ≤ q ∧ q ≤ 15) ∧ p / 8 * 8 = x.reg ∧ q / 8 * 8 = x.rm ∧ Pre bs (twoD bs r) (l ++ [byteOf (twoN p q)]) := by
  obtain ⟨h1, h2, h3⟩ := ok_must ok
  have hn := h.next h1
  have hr := next_range bs r
  rw [decide_eq_true_eq] at h2
  have hp := hx.p
  have hq := hx.q
  refine ⟨_, _, rfl, ?_, ?_, ?_, ?_, ?_⟩
  · rw [or_part hx.p]; omega
  · rw [or_part hx.q]; omega
  · rw [or_part hx.p]; omega
  · rw [or_part hx.q]; omega
  · rw [or_part hx.p, or_part hx.q]
    have e : twoN (x.reg + (nextF bs r).1 / 8 % 8) (x.rm + (nextF bs r).1 % 8) = (nextF bs r).1 := by unfold twoN; omega
    rw [e]
    unfold twoD
    rw [h3]
    exact hn
theorem Pre.one (h : Pre bs r l) {x : Rx} (hx : RxOk x) (ok : Ok (oneD bs x r)) : ∃ p q, oneV bs x r = (p, q) ∧ (0 ≤ p ∧ p ≤ 7) ∧ (0 ≤ q ∧ q ≤ 15) ∧ x.reg = 0 ∧ q / 8 * 8 = x.rm ∧ Pre bs (oneD bs x r) (l ++ [byteOf (twoN p q)]) := by
  obtain ⟨h1, h2, h3⟩ := ok_must (ok_two ok)
  rw [decide_eq_true_eq] at h2
  unfold oneD at ok
  rw [h3] at ok
  obtain ⟨p, q, e, hp, hq, rp, rq, hn⟩ := h.two hx ok
  refine ⟨p, q, ?_, by omega, hq, h2, rq, ?_⟩
  · unfold oneV; rw [h3]; exact e
  · unfold oneD; rw [h3]; exact hn
theorem Pre.mem (h : Pre bs r l) {x : Rx} (hx : RxOk x) (ok : Ok (memD bs r)) : ∃ p q n, memV bs x r = (p, q, n) ∧ (0 ≤ p ∧ p ≤ 15) ∧ (0 ≤ q ∧ q ≤ 15) ∧ p / 8 * 8 = x.reg ∧ q / 8 * 8 = x.rm ∧ smallF n = true ∧ Pre bs (memD bs r) (l ++ memF p q n) := by
  have ok2 : Ok (memD2 bs r) := ok_imm 4 ok
  have ok1 : Ok (memD1 bs r) := by
    unfold memD2 at ok2
    split at ok2
    · exact ok_next (ok_must ok2).1
    · exact ok2
  obtain ⟨h1, h2, h3⟩ := ok_must ok1
  have hn := h.next h1
  have hr := next_range bs r
  rw [decide_eq_true_eq] at h2
  have hp := hx.p
  have hq := hx.q
  have e : memN (x.reg + (nextF bs r).1 / 8 % 8) (x.rm + (nextF bs r).1 % 8) = (nextF bs r).1 := by unfold memN; omega
  have e4 : (x.rm + (nextF bs r).1 % 8) % 8 = (nextF bs r).1 % 8 := by omega
  have hd1 : Pre bs (memD1 bs r) (l ++ [byteOf (nextF bs r).1]) := by unfold memD1; rw [h3]; exact hn
  have hd2 : Pre bs (memD2 bs r) (l ++ (byteOf (nextF bs r).1 :: (if (nextF bs r).1 % 8 = 4 then [36] else []))) := by
    unfold memD2 at ok2 ⊢
    by_cases h4 : (nextF bs r).1 % 8 = 4
    · rw [if_pos h4] at ok2 ⊢
      rw [if_pos h4]
      obtain ⟨g1, g2, g3⟩ := ok_must ok2
      rw [decide_eq_true_eq] at g2
      have := hd1.next g1
      rw [g2, List.append_assoc] at this
      rw [g3]
      exact this
    · rw [if_neg h4]
      rw [if_neg h4]
      exact hd1
  refine ⟨_, _, _, rfl, ?_, ?_, ?_, ?_, immV4, ?_⟩
  · rw [or_part hx.p]; omega
  · rw [or_part hx.q]; omega
  · rw [or_part hx.p]; omega
  · rw [or_part hx.q]; omega
  · rw [or_part hx.p, or_part hx.q]
    unfold memF
    rw [e, e4]
    have := hd2.imm 4 ok
    rw [List.append_assoc] at this
    exact this

/-! ### each instruction -/
theorem valid_fl {i : Ins} {f : Int} (hf : fieldsF i.kind = (f, true)) (hd : 0 ≤ i.d ∧ i.d ≤ 15) (hs : 0 ≤ i.s ∧ i.s ≤ 15) (hc : 0 ≤ i.cond ∧ i.cond ≤ 15) (h1 : noneF f 1 i.d = true) (h2 : noneF f 2 i.s = true) (h4 : noneF f 4 i.imm = true) (h8 : noneF f 8 i.cond = true) (h16 : noneF f 16 i.size = true) (hz : sizedF i = true) : validF i = true := by
  have hb : bad0 i = false := by
    unfold bad0 inF
    rw [hf, decide_eq_true hd.1, decide_eq_true hd.2, decide_eq_true hs.1, decide_eq_true hs.2, decide_eq_true hc.1, decide_eq_true hc.2]
    rfl
  unfold validF
  rw [if_neg (by rw [hb]; exact fun q => Bool.noConfusion q), hf]
  dsimp only
  rw [h1, h2, h4, h8, h16, hz]
  rfl
/-- What is done is right. -/
def Dn (bs : List UInt8) (p : Ins × Rd) : Prop := Ok p.2 → validF p.1 = true ∧ I64 p.1.imm ∧ Pre bs p.2 (encF p.1)
theorem Dn.mk {i : Ins} {r : Rd} (h : Ok r → ∃ l, validF i = true ∧ I64 i.imm ∧ Pre bs r l ∧ encF i = l) : Dn bs (i, r) := by
  intro ok
  obtain ⟨l, h1, h2, h3, h4⟩ := h ok
  exact ⟨h1, h2, h4 ▸ h3⟩
theorem Dn.no {i : Ins} {r : Rd} : Dn bs (i, mustF r false) := fun ok => absurd (ok_must ok).2.1 (fun q => Bool.noConfusion q)
abbrev R15 : 0 ≤ (0 : Int) ∧ (0 : Int) ≤ 15 := ⟨by decide, by decide⟩
end
section
variable {bs : List UInt8} {r : Rd} {l : List UInt8}
theorem m16 (c : Int) : 0 ≤ c % 16 ∧ c % 16 ≤ 15 := by omega
theorem d8 {x : Rx} (hx : RxOk x) (op : Int) : (0 ≤ orI x.rm (op % 8) ∧ orI x.rm (op % 8) ≤ 15) ∧ orI x.rm (op % 8) / 8 * 8 = x.rm ∧ orI x.rm (op % 8) % 8 = op % 8 := by
  have h := hx.q
  rw [or_part h]
  omega
theorem rex_w {x : Rx} (hx : RxOk x) (h : ¬ x.wide = 0) : x.wide = 1 := hx.w.resolve_left h
theorem sized_j4 {i : Ins} (hk : i.kind = 35 ∨ i.kind = 36) (hz : i.size = 4) (hs : smallF i.imm = true) : sizedF i = true := by
  unfold sizedF
  rw [if_neg (by omega), if_pos hk, hz, hs]
  rfl
/-! ### two and far -/
theorem movedR_dn {x : Rx} (hx : RxOk x) (hw : x.wide = 1) (h : Pre bs r [byteOf (rexB x), 137]) : Dn bs (movedR bs x r) := by
  unfold movedR
  split
  · refine Dn.mk fun ok => ?_
    obtain ⟨p, q, n, e, hp, hq, rp, rq, hn, hk⟩ := h.mem hx ok
    rw [e]
    refine ⟨_, valid_fl (f := 23) rfl hq hp R15 rfl rfl rfl rfl rfl ?_, small_i64 hn, hk, ?_⟩
    · show ((decide ((8 : Int) = 8) || decide ((8 : Int) = 4) || decide ((8 : Int) = 1)) && smallF n) = true
      rw [hn]; rfl
    · rw [rexB1 hw rp rq]; rfl
  · refine Dn.mk fun ok => ?_
    obtain ⟨p, q, e, hp, hq, rp, rq, hk⟩ := h.two hx ok
    rw [e]
    refine ⟨_, valid_fl (f := 3) rfl hq hp R15 rfl rfl rfl rfl rfl rfl, I64_0, hk, ?_⟩
    rw [rexB1 hw rp rq]; rfl
theorem farIn_dn {x : Rx} {op : Int} (hx : RxOk x) (hop : 0 ≤ op ∧ op ≤ 255) (h : Pre bs r [byteOf (rexB x), 15, byteOf op]) : Dn bs (farIn bs x op r) := by
  have hA := ands hop
  unfold farIn
  split
  · rename_i hc
    rw [Bool.and_eq_true, decide_eq_true_eq, decide_eq_true_eq] at hc
    have ho := hA.2.2.1 hc.2
    refine Dn.mk fun ok => ?_
    obtain ⟨ok1, ok2, ok3⟩ := ok_must ok
    obtain ⟨p, q, e, hp, hq, rp, rq, hk⟩ := h.one hx ok1
    rw [e, decide_eq_true_eq] at ok2
    dsimp only at ok2
    subst ok2
    rw [ok3, e]
    refine ⟨_, valid_fl (f := 9) rfl hq R15 (m16 op) rfl rfl rfl rfl rfl rfl, I64_0, hk, ?_⟩
    rw [rexB0 (p := 0) (q := q) hc.1 rp.symm rq]
    show [_, 15, byteOf (144 + op % 16), _] = [_, 15, byteOf op, _]
    rw [← ho]
  split
  · rename_i _ hc
    rw [Bool.and_eq_true, decide_eq_true_eq, decide_eq_true_eq] at hc
    have ho := hA.2.2.2.1 hc.2
    refine Dn.mk fun ok => ?_
    obtain ⟨p, q, e, hp, hq, rp, rq, hk⟩ := h.two hx ok
    rw [e]
    refine ⟨_, valid_fl (f := 11) rfl hp hq (m16 op) rfl rfl rfl rfl rfl rfl, I64_0, hk, ?_⟩
    rw [rexB1 hc.1 rp rq]
    show [_, 15, byteOf (64 + op % 16), _] = [_, 15, byteOf op, _]
    rw [← ho]
  split
  · rename_i _ _ hc
    rw [Bool.and_eq_true, decide_eq_true_eq, decide_eq_true_eq] at hc
    refine Dn.mk fun ok => ?_
    obtain ⟨p, q, e, hp, hq, rp, rq, hk⟩ := h.two hx ok
    rw [e]
    refine ⟨_, valid_fl (f := 3) rfl hp hq R15 rfl rfl rfl rfl rfl rfl, I64_0, hk, ?_⟩
    rw [rexB1 hc.1 rp rq, hc.2]
    rfl
  split
  · rename_i _ _ _ hc
    rw [Bool.and_eq_true, decide_eq_true_eq, decide_eq_true_eq] at hc
    split
    · refine Dn.mk fun ok => ?_
      obtain ⟨p, q, n, e, hp, hq, rp, rq, hn, hk⟩ := h.mem hx ok
      rw [e]
      refine ⟨_, valid_fl (f := 23) rfl hp hq R15 rfl rfl rfl rfl rfl ?_, small_i64 hn, hk, ?_⟩
      · show ((decide ((1 : Int) = 8) || decide ((1 : Int) = 4) || decide ((1 : Int) = 1)) && smallF n) = true
        rw [hn]; rfl
      · rw [rexB1 hc.1 rp rq, hc.2]; rfl
    · refine Dn.mk fun ok => ?_
      obtain ⟨p, q, e, hp, hq, rp, rq, hk⟩ := h.two hx ok
      rw [e]
      refine ⟨_, valid_fl (f := 3) rfl hp hq R15 rfl rfl rfl rfl rfl rfl, I64_0, hk, ?_⟩
      rw [rexB1 hc.1 rp rq, hc.2]; rfl
  · exact Dn.no
theorem far_dn {x : Rx} (hx : RxOk x) (h : Pre bs r [byteOf (rexB x), 15]) : Dn bs (farR bs x r) := by
  unfold farR
  split
  · rename_i hc
    intro ok
    rw [show (nextF bs (farD1 x r)).2.cut = false from ok.1, show (nextF bs (farD1 x r)).2.wrong = false from ok.2] at hc
    exact absurd hc (by decide)
  · rename_i hc
    have ok : Ok (nextF bs (farD1 x r)).2 := by
      rw [Bool.or_eq_true, not_or, Bool.not_eq_true, Bool.not_eq_true] at hc
      exact hc
    obtain ⟨h1, h2, h3⟩ := ok_must (ok_next ok)
    have e : farD1 x r = r := h3
    rw [e] at ok ⊢
    exact farIn_dn hx (next_range bs r) (h.next ok)
theorem narrow_dn {x : Rx} {op : Int} (hx : RxOk x) (hw : x.wide = 0) (hop : 0 ≤ op ∧ op ≤ 255) (h : Pre bs r [byteOf (rexB x), byteOf op]) : Dn bs (narrowR bs x op r) := by
  have hA := ands hop
  unfold narrowR
  split
  · rename_i hc
    refine Dn.mk fun ok => ?_
    obtain ⟨p, q, n, e, hp, hq, rp, rq, hn, hk⟩ := h.mem hx ok
    rw [e]
    refine ⟨_, valid_fl (f := 23) rfl hp hq R15 rfl rfl rfl rfl rfl ?_, small_i64 hn, hk, ?_⟩
    · show ((decide ((4 : Int) = 8) || decide ((4 : Int) = 4) || decide ((4 : Int) = 1)) && smallF n) = true
      rw [hn]; rfl
    · rw [rexB0 hw rp rq, hc]; rfl
  split
  · rename_i _ hc
    refine Dn.mk fun ok => ?_
    obtain ⟨p, q, n, e, hp, hq, rp, rq, hn, hk⟩ := h.mem hx ok
    rw [e]
    refine ⟨_, valid_fl (f := 23) rfl hq hp R15 rfl rfl rfl rfl rfl ?_, small_i64 hn, hk, ?_⟩
    · show ((decide ((4 : Int) = 8) || decide ((4 : Int) = 4) || decide ((4 : Int) = 1)) && smallF n) = true
      rw [hn]; rfl
    · rw [rexB0 hw rp rq, hc]; rfl
  split
  · rename_i _ _ hc
    refine Dn.mk fun ok => ?_
    obtain ⟨p, q, n, e, hp, hq, rp, rq, hn, hk⟩ := h.mem hx ok
    rw [e]
    refine ⟨_, valid_fl (f := 23) rfl hq hp R15 rfl rfl rfl rfl rfl ?_, small_i64 hn, hk, ?_⟩
    · show ((decide ((1 : Int) = 8) || decide ((1 : Int) = 4) || decide ((1 : Int) = 1)) && smallF n) = true
      rw [hn]; rfl
    · rw [rexB0 hw rp rq, hc]; rfl
  split
  · rename_i _ _ _ hc
    refine Dn.mk fun ok => ?_
    obtain ⟨ok1, ok2, ok3⟩ := ok_must ok
    obtain ⟨p, q, e, hp, hq, rp, rq, hk⟩ := h.one hx ok1
    rw [e, Bool.or_eq_true, decide_eq_true_eq, decide_eq_true_eq] at ok2
    dsimp only at ok2
    rw [ok3, e]
    dsimp only
    rcases ok2 with rfl | rfl
    · rw [if_pos rfl]
      refine ⟨_, valid_fl (f := 1) rfl hq R15 R15 rfl rfl rfl rfl rfl rfl, I64_0, hk, ?_⟩
      rw [rexB0 (p := 0) (q := q) hw rp.symm rq, hc]; rfl
    · rw [if_neg (by decide)]
      refine ⟨_, valid_fl (f := 1) rfl hq R15 R15 rfl rfl rfl rfl rfl rfl, I64_0, hk, ?_⟩
      rw [rexB0 (p := 0) (q := q) hw rp.symm rq, hc]; rfl
  split
  · rename_i _ _ _ _ hc
    have ho := hA.2.2.2.2.2.2.1 hc
    refine Dn.mk fun ok => ?_
    obtain ⟨ok1, ok2, ok3⟩ := ok_must ok
    rw [decide_eq_true_eq] at ok2
    rw [ok3]
    obtain ⟨g1, g2, g3⟩ := d8 hx op
    refine ⟨_, valid_fl (f := 1) rfl g1 R15 R15 rfl rfl rfl rfl rfl rfl, I64_0, h, ?_⟩
    rw [rexB0 (p := 0) hw ok2.symm g2]
    show [_, byteOf (80 + orI x.rm (op % 8) % 8)] = _
    rw [g3, ← ho]
  split
  · rename_i _ _ _ _ _ hc
    have ho := hA.2.2.2.2.2.2.2.1 hc
    refine Dn.mk fun ok => ?_
    obtain ⟨ok1, ok2, ok3⟩ := ok_must ok
    rw [decide_eq_true_eq] at ok2
    rw [ok3]
    obtain ⟨g1, g2, g3⟩ := d8 hx op
    refine ⟨_, valid_fl (f := 1) rfl g1 R15 R15 rfl rfl rfl rfl rfl rfl, I64_0, h, ?_⟩
    rw [rexB0 (p := 0) hw ok2.symm g2]
    show [_, byteOf (88 + orI x.rm (op % 8) % 8)] = _
    rw [g3, ← ho]
  · exact Dn.no
/-! ### those with a number in ModRM -/
theorem num_kinds {op n : Int} (hn : 0 ≤ n ∧ n ≤ 7) (hop : op = 129 ∨ op = 247 ∨ op = 211 ∨ op = 193) (h : 0 < kindN op n 16) : opF (kindN op n 16) = (op, n) ∧ clsF (kindN op n 16) = (if op = 129 then 1 else if op = 193 then 3 else 2) ∧ fieldsF (kindN op n 16) = (if op = 129 then 5 else if op = 193 then 5 else 1, true) ∧ (op = 193 → kindN op n 16 = 29 ∨ kindN op n 16 = 30 ∨ kindN op n 16 = 31) ∧ (¬ op = 193 → 15 ≤ kindN op n 16 ∧ kindN op n 16 ≤ 28) := by
  have e : n = 0 ∨ n = 1 ∨ n = 2 ∨ n = 3 ∨ n = 4 ∨ n = 5 ∨ n = 6 ∨ n = 7 := by omega
  rcases hop with rfl | rfl | rfl | rfl <;> rcases e with rfl | rfl | rfl | rfl | rfl | rfl | rfl | rfl <;> revert h <;> decide
theorem sized_mid {i : Ins} (h : 15 ≤ i.kind ∧ i.kind ≤ 28) (hs : smallF i.imm = true) : sizedF i = true := by
  unfold sizedF
  rw [if_neg (by omega), if_neg (by omega), if_neg (by omega), hs, Bool.or_true]
theorem numbered_dn {x : Rx} {op : Int} (hx : RxOk x) (hw : x.wide = 1) (hop : op = 129 ∨ op = 247 ∨ op = 211 ∨ op = 193) (h : Pre bs r [byteOf (rexB x), byteOf op]) : Dn bs (numberedR bs x op r) := by
  have hN : Ok (numD1 bs x op r) → ∃ n q, oneV bs x r = (n, q) ∧ (0 ≤ q ∧ q ≤ 15) ∧ byteOf (rexB x) = byteOf (rexN true 0 q) ∧ 0 < kindN op n 16 ∧ (0 ≤ n ∧ n ≤ 7) ∧ Pre bs (numD1 bs x op r) [byteOf (rexB x), byteOf op, byteOf (twoN n q)] := by
    intro ok
    obtain ⟨ok1, ok2, ok3⟩ := ok_must ok
    obtain ⟨p, q, e, hp, hq, rp, rq, hk⟩ := h.one hx ok1
    rw [e, decide_eq_true_eq] at ok2
    refine ⟨p, q, e, hq, by rw [rexB1 (p := 0) (q := q) hw rp.symm rq], ok2, hp, ?_⟩
    unfold numD1
    rw [ok3]
    exact hk
  unfold numberedR
  split
  · rename_i hc
    refine Dn.mk fun ok => ?_
    obtain ⟨n, q, e, hq, hx2, hk0, hn, hk⟩ := hN (ok_imm 4 ok)
    obtain ⟨k1, k2, k3, _, k5⟩ := num_kinds hn hop hk0
    rw [if_pos hc] at k2 k3
    rw [e]
    dsimp only
    refine ⟨_, valid_fl k3 hq R15 R15 rfl rfl rfl rfl rfl (sized_mid (k5 (by omega)) immV4), small_i64 immV4, hk.imm 4 ok, ?_⟩
    rw [enc1 k2]
    dsimp only
    rw [k1, hx2]; rfl
  split
  · rename_i hc0 hc
    refine Dn.mk fun ok => ?_
    obtain ⟨ok1, ok2, ok3⟩ := ok_must ok
    obtain ⟨n, q, e, hq, hx2, hk0, hn, hk⟩ := hN (ok_imm 1 ok1)
    obtain ⟨k1, k2, k3, k4, _⟩ := num_kinds hn hop hk0
    rw [if_neg hc0, if_pos hc] at k2 k3
    rw [e, ok3]
    dsimp only
    have hi : sizedF ⟨kindN op n 16, q, 0, 0, 0, immV bs (numD1 bs x op r) 1⟩ = true := by
      have := k4 hc
      unfold sizedF
      dsimp only
      rw [if_neg (by omega), if_neg (by omega), if_pos this]
      exact ok2
    have hv := immV1 (bs := bs) (r := numD1 bs x op r)
    refine ⟨_, valid_fl k3 hq R15 R15 rfl rfl rfl rfl rfl hi, by show I64 (immV bs _ 1); unfold I64; omega, hk.imm 1 ok1, ?_⟩
    rw [enc3 k2]
    dsimp only
    rw [k1, hx2]; rfl
  · rename_i hc0 hc
    refine Dn.mk fun ok => ?_
    obtain ⟨n, q, e, hq, hx2, hk0, hn, hk⟩ := hN ok
    obtain ⟨k1, k2, k3, _, k5⟩ := num_kinds hn hop hk0
    rw [if_neg hc0, if_neg hc] at k2 k3
    rw [e]
    dsimp only
    refine ⟨_, valid_fl k3 hq R15 R15 rfl rfl rfl rfl rfl (sized_mid (k5 hc) rfl), I64_0, hk, ?_⟩
    rw [enc2 k2]
    dsimp only
    rw [k1, hx2]
/-! ### behind a REX byte -/
theorem kindP_mem {op k : Int} (h : kindP op = some k) : (opF k).1 = op ∧ k ∈ kindsP := by
  unfold kindP at h
  exact ⟨by simpa using List.find?_some h, List.mem_of_find?_eq_some h⟩
theorem kindP_cls : ∀ k ∈ kindsP, clsF k = 0 ∧ fieldsF k = (3, true) ∧ 6 ≤ k ∧ k ≤ 14 := by decide
theorem sized_low {i : Ins} (h : 6 ≤ i.kind ∧ i.kind ≤ 14) (hs : smallF i.imm = true) : sizedF i = true := by
  unfold sizedF
  rw [if_neg (by omega), if_neg (by omega), if_neg (by omega), hs, Bool.or_true]
theorem prefIn_dn {x : Rx} {op : Int} (hx : RxOk x) (hop : 0 ≤ op ∧ op ≤ 255) (h : Pre bs r [byteOf (rexB x), byteOf op]) : Dn bs (prefIn bs x op r) := by
  have hA := ands hop
  unfold prefIn
  split
  · rename_i hc
    rw [hc] at h
    exact far_dn hx h
  split
  · rename_i _ hw
    exact narrow_dn hx hw hop h
  have hw : x.wide = 1 := rex_w hx (by assumption)
  split
  · rename_i _ _ hc
    have ho := hA.2.2.2.2.2.2.2.2 hc
    refine Dn.mk fun ok => ?_
    obtain ⟨ok1, ok2, ok3⟩ := ok_must ok
    obtain ⟨ok4, ok5, ok6⟩ := ok_must (ok_imm 8 ok1)
    rw [decide_eq_true_eq] at ok5
    rw [ok3]
    rw [ok6] at ok1 ok2 ⊢
    rw [Bool.not_eq_true'] at ok2
    obtain ⟨g1, g2, g3⟩ := d8 hx op
    refine ⟨_, valid_fl (f := 5) rfl g1 R15 R15 rfl rfl rfl rfl rfl rfl, immV8, h.imm 8 ok1, ?_⟩
    rw [enc5 rfl]
    dsimp only
    rw [if_neg (by rw [ok2]; exact fun q => Bool.noConfusion q), rexB1 (p := 0) hw ok5.symm g2, g3, ← ho]; rfl
  split
  · rename_i _ _ _ hc
    refine Dn.mk fun ok => ?_
    obtain ⟨p, q, n, e, hp, hq, rp, rq, hn, hk⟩ := h.mem hx ok
    rw [e]
    refine ⟨_, valid_fl (f := 23) rfl hp hq R15 rfl rfl rfl rfl rfl ?_, small_i64 hn, hk, ?_⟩
    · show ((decide ((8 : Int) = 8) || decide ((8 : Int) = 4) || decide ((8 : Int) = 1)) && smallF n) = true
      rw [hn]; rfl
    · rw [rexB1 hw rp rq, hc]; rfl
  split
  · rename_i _ _ _ _ hc
    refine Dn.mk fun ok => ?_
    obtain ⟨p, q, n, e, hp, hq, rp, rq, hn, hk⟩ := h.mem hx ok
    rw [e]
    refine ⟨_, valid_fl (f := 7) rfl hp hq R15 rfl rfl rfl rfl rfl ?_, small_i64 hn, hk, ?_⟩
    · exact hn
    · rw [rexB1 hw rp rq, hc]; rfl
  split
  · rename_i _ _ _ _ _ hc
    rw [hc] at h
    exact movedR_dn hx hw h
  split
  · rename_i _ _ _ _ _ _ hc
    refine Dn.mk fun ok => ?_
    obtain ⟨ok1, ok2, ok3⟩ := ok_must (ok_imm 4 ok)
    obtain ⟨p, q, e, hp, hq, rp, rq, hk⟩ := h.one hx ok1
    rw [ok3] at ok ⊢
    rw [e, decide_eq_true_eq] at ok2
    dsimp only at ok2
    subst ok2
    rw [e]
    refine ⟨_, valid_fl (f := 5) rfl hq R15 R15 rfl rfl rfl rfl rfl rfl, small_i64 immV4, hk.imm 4 ok, ?_⟩
    rw [enc5 rfl]
    dsimp only
    rw [if_pos immV4, rexB1 (p := 0) hw rp.symm rq, hc]; rfl
  split
  · rename_i _ _ _ _ _ _ _ hc
    exact numbered_dn hx hw hc h
  split
  · rename_i k hc
    obtain ⟨ho, hm⟩ := kindP_mem hc
    obtain ⟨c0, cf, cr⟩ := kindP_cls k hm
    refine Dn.mk fun ok => ?_
    obtain ⟨p, q, e, hp, hq, rp, rq, hk⟩ := h.two hx ok
    rw [e]
    refine ⟨_, valid_fl cf hq hp R15 rfl rfl rfl rfl rfl (sized_low cr rfl), I64_0, hk, ?_⟩
    rw [enc0 c0]
    dsimp only
    rw [rexB1 hw rp rq, ho]; rfl
  · exact Dn.no
theorem next_keeps (bs : List UInt8) (r : Rd) : (nextF bs r).2.wrong = r.wrong := by
  unfold nextF
  split
  · rfl
  · split <;> rfl
theorem ok_pref {x : Rx} (h : Ok (prefR bs x r).2) : Ok r := by
  unfold prefR at h
  split at h
  · exact ok_next h
  · rename_i hc
    rw [Bool.or_eq_true, not_or, Bool.not_eq_true, Bool.not_eq_true] at hc
    exact ok_next hc
theorem pref_dn {x : Rx} (hx : RxOk x) (h : Pre bs r [byteOf (rexB x)]) : Dn bs (prefR bs x r) := by
  unfold prefR
  split
  · rename_i hc
    intro ok
    rw [show (nextF bs r).2.cut = false from ok.1, show (nextF bs r).2.wrong = false from ok.2] at hc
    exact absurd hc (by decide)
  · rename_i hc
    have ok : Ok (nextF bs r).2 := by
      rw [Bool.or_eq_true, not_or, Bool.not_eq_true, Bool.not_eq_true] at hc
      exact hc
    exact prefIn_dn hx (next_range bs r) (h.next ok)
/-! ### behind a byte 66 or F2 -/
theorem realK_pos {first op : Int} {x : Rx} (h : 0 < realK first x op) : (first = 102 ∧ x.wide = 1 ∧ op = 110 ∧ realK first x op = 45) ∨ (first = 102 ∧ x.wide = 0 ∧ op = 46 ∧ realK first x op = 51) ∨ (first = 242 ∧ x.wide = 1 ∧ op = 42 ∧ realK first x op = 52) ∨ (first = 242 ∧ x.wide = 0 ∧ op = 88 ∧ realK first x op = 47) ∨ (first = 242 ∧ x.wide = 0 ∧ op = 89 ∧ realK first x op = 48) ∨ (first = 242 ∧ x.wide = 0 ∧ op = 92 ∧ realK first x op = 49) ∨ (first = 242 ∧ x.wide = 0 ∧ op = 94 ∧ realK first x op = 50) := by
  generalize hk : realK first x op = k at h ⊢
  unfold realK at hk
  simp only [Bool.and_eq_true, decide_eq_true_eq] at hk
  split at hk
  · rename_i hc
    exact .inl ⟨hc.1.1, hc.1.2, hc.2, hk.symm⟩
  split at hk
  · rename_i hc
    exact .inr (.inl ⟨hc.1.1, hc.1.2, hc.2, hk.symm⟩)
  split at hk
  · rename_i hc
    exact .inr (.inr (.inl ⟨hc.1.1, hc.1.2, hc.2, hk.symm⟩))
  split at hk
  · rename_i hc
    exact .inr (.inr (.inr (.inl ⟨hc.1.1, hc.1.2, hc.2, hk.symm⟩)))
  split at hk
  · rename_i hc
    exact .inr (.inr (.inr (.inr (.inl ⟨hc.1.1, hc.1.2, hc.2, hk.symm⟩))))
  split at hk
  · rename_i hc
    exact .inr (.inr (.inr (.inr (.inr (.inl ⟨hc.1.1, hc.1.2, hc.2, hk.symm⟩)))))
  split at hk
  · rename_i hc
    exact .inr (.inr (.inr (.inr (.inr (.inr (⟨hc.1.1, hc.1.2, hc.2, hk.symm⟩))))))
  · omega
theorem realIn_dn {x : Rx} {first op : Int} (hx : RxOk x) (h : Pre bs r [byteOf first, byteOf (rexB x), 15, byteOf op]) : Dn bs (realIn bs first x op r) := by
  unfold realIn
  split
  · rename_i hc
    rw [Bool.and_eq_true, Bool.and_eq_true, decide_eq_true_eq, decide_eq_true_eq, decide_eq_true_eq] at hc
    obtain ⟨⟨hf, hw⟩, ho⟩ := hc
    refine Dn.mk fun ok => ?_
    obtain ⟨p, q, e, hp, hq, rp, rq, hk⟩ := h.two hx ok
    rw [e]
    refine ⟨_, valid_fl (f := 3) rfl hq hp R15 rfl rfl rfl rfl rfl rfl, I64_0, hk, ?_⟩
    rw [rexB1 hw rp rq, hf, ho]; rfl
  · refine Dn.mk fun ok => ?_
    obtain ⟨ok1, ok2, ok3⟩ := ok_must (ok_two ok)
    rw [decide_eq_true_eq] at ok2
    rw [ok3] at ok ⊢
    obtain ⟨p, q, e, hp, hq, rp, rq, hk⟩ := h.two hx ok
    rw [e]
    dsimp only
    rcases realK_pos ok2 with ⟨hf, hw, ho, hk2⟩ | ⟨hf, hw, ho, hk2⟩ | ⟨hf, hw, ho, hk2⟩ | ⟨hf, hw, ho, hk2⟩ | ⟨hf, hw, ho, hk2⟩ | ⟨hf, hw, ho, hk2⟩ | ⟨hf, hw, ho, hk2⟩ <;> rw [hk2]
    all_goals refine ⟨_, valid_fl (f := 3) rfl hp hq R15 rfl rfl rfl rfl rfl rfl, I64_0, hk, ?_⟩
    all_goals first | (rw [rexB1 hw rp rq, hf, ho]; rfl) | (rw [rexB0 hw rp rq, hf, ho]; rfl)
theorem real_dn {first : Int} (h : Pre bs r [byteOf first]) : Dn bs (realR bs first r) := by
  unfold realR
  split
  · rename_i hc
    intro ok
    rw [show (nextF bs r).2.cut = false from ok.1] at hc
    exact absurd hc (by decide)
  split
  · rename_i hc
    intro ok
    rw [show (nextF bs (realD2 bs r)).2.cut = false from ok.1, show (nextF bs (realD2 bs r)).2.wrong = false from ok.2] at hc
    exact absurd hc (by decide)
  · rename_i hc
    have ok : Ok (nextF bs (realD2 bs r)).2 := by
      rw [Bool.or_eq_true, not_or, Bool.not_eq_true, Bool.not_eq_true] at hc
      exact hc
    obtain ⟨a1, a2, a3⟩ := ok_must (ok_next ok)
    obtain ⟨b1, b2, b3⟩ := ok_must (ok_next a1)
    rw [decide_eq_true_eq] at a2 b2
    have e2 : realD2 bs r = (nextF bs (realD1 bs r)).2 := a3
    have e1 : realD1 bs r = (nextF bs r).2 := b3
    have hr := next_range bs r
    have hrx := split_rex ((ands hr).2.1 b2)
    have h1 := h.next b1
    rw [e1] at a1 a2
    have h2 := h1.next a1
    rw [e2, e1] at ok ⊢
    have h3 := h2.next ok
    rw [a2] at h3
    refine realIn_dn (split_ok _) ?_
    rw [hrx]
    exact h3
/-! ### all of it -/
theorem insTwo_dn (h : Pre bs r [15]) : Dn bs (insTwo bs r) := by
  have hr := next_range bs r
  unfold insTwo
  split
  · rename_i hc
    refine Dn.mk fun ok => ?_
    have hk := h.next ok
    rw [hc] at hk
    exact ⟨_, rfl, I64_0, hk, rfl⟩
  split
  · rename_i _ hc
    refine Dn.mk fun ok => ?_
    have hk := h.next ok
    rw [hc] at hk
    exact ⟨_, rfl, I64_0, hk, rfl⟩
  split
  · rename_i _ _ hc
    refine Dn.mk fun ok => ?_
    have ok1 := ok_imm 4 ok
    have hk := h.next ok1
    have ho := (ands hr).2.2.2.2.2.1 hc
    refine ⟨_, valid_fl (f := 28) rfl R15 R15 (m16 _) rfl rfl rfl rfl rfl ?_, small_i64 immV4, hk.imm 4 ok, ?_⟩
    · exact sized_j4 (.inr rfl) rfl immV4
    · show 15 :: byteOf (128 + (nextF bs r).1 % 16) :: _ = _
      rw [← ho]; rfl
  · exact Dn.no
theorem insIn_dn {v : Int} (hv : 0 ≤ v ∧ v ≤ 255) (h : Pre bs r [byteOf v]) : Dn bs (insIn bs v r) := by
  have hA := ands hv
  unfold insIn
  split
  · rename_i hc
    intro ok
    have hm : Ok (mustF r (decide (andI v 2 = 0))) := ok_pref ok
    obtain ⟨m1, m2, m3⟩ := ok_must hm
    rw [decide_eq_true_eq] at m2
    have hrx := split_rex (hA.1 hc m2)
    rw [m3] at ok ⊢
    exact pref_dn (split_ok v) (by rw [hrx]; exact h) ok
  split
  · exact real_dn h
  split
  · rename_i _ _ hc
    refine Dn.mk fun ok => ?_
    have ho := hA.2.2.2.2.1 hc
    have hi := immV1 (bs := bs) (r := r)
    refine ⟨_, valid_fl (f := 28) rfl R15 R15 (m16 _) rfl rfl rfl rfl rfl ?_, by show I64 (immV bs _ 1); unfold I64; omega, h.imm 1 ok, ?_⟩
    · show (decide ((1 : Int) = 4) && smallF (immV bs r 1) || decide ((1 : Int) = 1) && inF (immV bs r 1) (-128) 127) = true
      rw [inF_of hi.1 hi.2]; rfl
    · show byteOf (112 + v % 16) :: _ = _
      rw [← ho]; rfl
  split
  · rename_i _ _ _ hc
    refine Dn.mk fun ok => ?_
    have hi := immV1 (bs := bs) (r := r)
    refine ⟨_, valid_fl (f := 20) rfl R15 R15 R15 rfl rfl rfl rfl rfl ?_, by show I64 (immV bs _ 1); unfold I64; omega, h.imm 1 ok, ?_⟩
    · show (decide ((1 : Int) = 4) && smallF (immV bs r 1) || decide ((1 : Int) = 1) && inF (immV bs r 1) (-128) 127) = true
      rw [inF_of hi.1 hi.2]; rfl
    · rw [hc]; rfl
  split
  · rename_i _ _ _ _ hc
    refine Dn.mk fun ok => ?_
    refine ⟨_, valid_fl (f := 20) rfl R15 R15 R15 rfl rfl rfl rfl rfl ?_, small_i64 immV4, h.imm 4 ok, ?_⟩
    · exact sized_j4 (.inl rfl) rfl immV4
    · rw [hc]; rfl
  split
  · rename_i _ _ _ _ _ hc
    refine Dn.mk fun ok => ?_
    refine ⟨_, valid_fl (f := 4) rfl R15 R15 R15 rfl rfl rfl rfl rfl immV4, small_i64 immV4, h.imm 4 ok, ?_⟩
    rw [hc]; rfl
  split
  · rename_i _ _ _ _ _ _ hc
    refine Dn.mk fun ok => ?_
    rw [hc] at h
    exact ⟨_, rfl, I64_0, h, rfl⟩
  split
  · rename_i _ _ _ _ _ _ _ hc
    rw [hc] at h
    exact insTwo_dn h
  · exact Dn.no
theorem ins_dn (bs : List UInt8) : Dn bs (insR bs rd0) := by
  unfold insR
  split
  · rename_i hc
    intro ok
    rw [show (nextF bs rd0).2.cut = false from ok.1] at hc
    exact absurd hc (by decide)
  · intro ok
    rename_i hc
    have ok1 : Ok (nextF bs rd0).2 := ⟨by rwa [Bool.not_eq_true] at hc, next_keeps bs rd0⟩
    exact insIn_dn (next_range bs rd0) ((Pre.start bs).next ok1) ok
/-- What is decoded is encoded as it stood. -/
theorem reads {bs : List UInt8} (h : decE bs = 0) : validF (decI bs) = true ∧ I64 (decI bs).imm ∧ encF (decI bs) = bs.take (decN bs) ∧ decN bs = (encF (decI bs)).length ∧ decN bs ≤ bs.length := by
  have hok : Ok (insR bs rd0).2 := by
    unfold decE at h
    split at h
    · exact absurd h (by decide)
    · split at h
      · exact absurd h (by decide)
      · rename_i h1 h2
        rw [Bool.not_eq_true] at h1 h2
        exact ⟨h2, h1⟩
  have hn : ¬ ((insR bs rd0).2.wrong = true ∨ (insR bs rd0).2.cut = true) := by
    rw [hok.1, hok.2]
    decide
  obtain ⟨h1, h2, h3⟩ := ins_dn bs hok
  have e1 : decI bs = (insR bs rd0).1 := if_neg hn
  have e2 : decN bs = (encF (insR bs rd0).1).length := by
    rw [decN, if_neg hn, h3.st]
  rw [e1, e2]
  exact ⟨h1, h2, h3.tk.symm, rfl, h3.le⟩
theorem reads_no {bs : List UInt8} (h : ¬ decE bs = 0) : decI bs = nilI ∧ decN bs = 0 ∧ (decE bs = 201 ∨ decE bs = 202) := by
  have hb : (insR bs rd0).2.wrong = true ∨ (insR bs rd0).2.cut = true := by
    unfold decE at h
    split at h
    · exact .inl (by assumption)
    · split at h
      · exact .inr (by assumption)
      · exact absurd rfl h
  refine ⟨if_pos hb, if_pos hb, ?_⟩
  unfold decE
  rcases hb with hb | hb
  · rw [if_pos hb]; exact .inl rfl
  · split
    · exact .inl rfl
    · exact .inr rfl
end
end Go.Proofs.YtjndpakhmgapjaaDoor

namespace Go.Proofs.YtjndpakhmgapjaaDoor
open Go Go.RowKit
set_option linter.unusedSimpArgs false
set_option linter.unusedVariables false
set_option linter.unnecessarySimpa false
def Cu (r : Rd) : Prop := r.cut = true ∧ r.wrong = false
/-- Bytes begin with others, and go on. -/
def Qb (bs l : List UInt8) : Prop := ∃ t, t ≠ [] ∧ bs ++ t = l
theorem Qb.mk {l w : List UInt8} {x : UInt8} : Qb l (l ++ x :: w) := ⟨x :: w, List.cons_ne_nil _ _, rfl⟩
theorem leNum_range : ∀ u : List UInt8, 0 ≤ leNum u ∧ leNum u < 256 ^ u.length
  | [] => ⟨Int.le_refl 0, by decide⟩
  | b :: r => by
    have h := leNum_range r
    have hb := u8_toNat b
    have e : (256 : Int) ^ (b :: r).length = 256 ^ r.length * 256 := Int.pow_succ ..
    rw [e, leNum]
    omega
theorem leBytes_num : ∀ (k : Nat) (u : List UInt8) (m : Int), u.length ≤ k → leBytes k (leNum u + 256 ^ u.length * m) = u ++ leBytes (k - u.length) m
  | k, [], m, _ => by
    show leBytes k (0 + 1 * m) = _
    rw [Int.zero_add, Int.one_mul]
    rfl
  | 0, b :: u, m, h => absurd h (by simp)
  | k + 1, b :: u, m, h => by
    have hb := u8_toNat b
    have e : leNum (b :: u) + 256 ^ (b :: u).length * m = (b.toNat : Int) + (leNum u + 256 ^ u.length * m) * 256 := by
      rw [leNum, show (256 : Int) ^ (b :: u).length = 256 ^ u.length * 256 from Int.pow_succ .., Int.add_mul, Int.mul_assoc, Int.mul_comm 256 m, ← Int.mul_assoc, Int.mul_comm 256 (leNum u), Int.add_assoc]
    have ih := leBytes_num k u m (by simpa using h)
    rw [e, leBytes, Int.add_mul_emod_self_right, Int.add_mul_ediv_right _ _ (by decide), Int.ediv_eq_zero_of_lt hb.1 (by omega), Int.zero_add, ih]
    have e2 : UInt8.ofNat ((b.toNat : Int) % 256).toNat = b := byte_of b
    rw [show k + 1 - (b :: u).length = k - u.length by simp]
    show UInt8.ofNat _ :: _ = _
    rw [e2]
    rfl
section
variable {bs : List UInt8} {r : Rd} {l : List UInt8}
theorem cu_must {is : Bool} (h : Cu (mustF r is)) : Cu r := by
  unfold mustF at h
  split at h
  · exact absurd (show true = false from h.2) (fun q => Bool.noConfusion q)
  · exact h
theorem pre_ok (h : Pre bs r l) : Ok r := by rw [h.st]; exact ⟨rfl, rfl⟩
theorem not_cu (h : Ok r) (c : Cu r) : False := by have := h.1; rw [c.1] at this; cases this
theorem cu_next (c : Cu (nextF bs r).2) : Cu r ∨ Ok r ∧ r.at_ = bs.length := by
  unfold nextF at c
  split at c
  · exact .inl c
  · rename_i hc
    rw [Bool.or_eq_true, not_or, Bool.not_eq_true, Bool.not_eq_true] at hc
    split at c
    · rename_i ha
      exact .inr ⟨hc, ha⟩
    · exact .inl c
theorem Pre.all (h : Pre bs r l) (ha : r.at_ = bs.length) : bs = l := by
  have ht := h.tk
  rw [h.st] at ha
  have hl : l.length = bs.length := ha
  rw [hl, List.take_length] at ht
  exact ht
theorem Pre.nextC (h : Pre bs r l) (c : Cu (nextF bs r).2) : bs = l := by
  rcases cu_next c with c | ⟨_, ha⟩
  · exact (not_cu (pre_ok h) c).elim
  · exact h.all ha
theorem next_or (bs : List UInt8) (h : r.wrong = false) : Ok (nextF bs r).2 ∨ Cu (nextF bs r).2 := by
  have hw : (nextF bs r).2.wrong = false := by rw [next_keeps]; exact h
  cases hc : (nextF bs r).2.cut
  · exact .inl ⟨hc, hw⟩
  · exact .inr ⟨hc, hw⟩
theorem must_or {is : Bool} (h : Ok r) (hw : (mustF r is).wrong = false) : Ok (mustF r is) ∧ is = true ∧ mustF r is = r := by
  have hc : Ok (mustF r is) := by
    refine ⟨?_, hw⟩
    unfold mustF
    split
    · exact h.1
    · exact h.1
  obtain ⟨_, h2, h3⟩ := ok_must hc
  exact ⟨hc, h2, h3⟩
theorem Pre.twoC (h : Pre bs r l) (c : Cu (twoD bs r)) : bs = l := h.nextC (cu_must c)
theorem Pre.oneC (h : Pre bs r l) {x : Rx} (c : Cu (oneD bs x r)) : x.reg = 0 ∧ bs = l := by
  have c1 : Cu (nextF bs (mustF r (decide (x.reg = 0)))).2 := cu_must c
  have hw : (mustF r (decide (x.reg = 0))).wrong = false := by have := c1.2; rwa [next_keeps] at this
  obtain ⟨_, h2, h3⟩ := must_or (pre_ok h) hw
  rw [h3] at c1
  exact ⟨by simpa using h2, h.nextC c1⟩
theorem Pre.immC (h : Pre bs r l) : ∀ k, Cu (Go.Proofs.YtjndpakhmgapjaaDoor.immS bs r k).2 → ∃ u : List UInt8, u.length < k ∧ bs = l ++ u
  | 0, c => (not_cu (pre_ok h) c).elim
  | k + 1, c => by
    rcases cu_next c with c | ⟨ok, ha⟩
    · obtain ⟨u, h1, h2⟩ := Pre.immC h k c
      exact ⟨u, by omega, h2⟩
    · have h1 := h.immS k ok
      refine ⟨_, ?_, h1.all ha⟩
      rw [leBytes_length]
      omega
theorem cu_imm0 : ∀ k, Cu (immS bs r k).2 → Cu r ∨ Ok r
  | 0, c => .inl c
  | k + 1, c => by
    rcases cu_next c with c | ⟨ok, _⟩
    · exact cu_imm0 k c
    · exact .inr (ok_imm k ok)
theorem part4 {u : List UInt8} (hu : u.length < 4) : ∃ n, smallF n = true ∧ ∃ x w, immF n 4 = u ++ x :: w := by
  have h := leNum_range u
  have hp : (256 : Int) ^ u.length ≤ 256 ^ 3 := by
    have : u.length = 0 ∨ u.length = 1 ∨ u.length = 2 ∨ u.length = 3 := by omega
    rcases this with e | e | e | e <;> rw [e] <;> decide
  refine ⟨leNum u, ?_, 0, leBytes (4 - u.length - 1) 0, ?_⟩
  · unfold smallF inF
    rw [Bool.and_eq_true, decide_eq_true_eq, decide_eq_true_eq]
    have : (256 : Int) ^ 3 = 16777216 := by decide
    omega
  · have e := leBytes_num 4 u 0 (by omega)
    rw [Int.mul_zero, Int.add_zero] at e
    unfold immF
    rw [e]
    obtain ⟨j, hj⟩ : ∃ j, 4 - u.length = j + 1 := ⟨4 - u.length - 1, by omega⟩
    rw [hj]
    rfl
theorem part8 {u : List UInt8} (hu : u.length < 8) : ∃ n, smallF n = false ∧ I64 n ∧ ∃ x w, immF n 8 = u ++ x :: w := by
  have h := leNum_range u
  have hc : u.length = 0 ∨ u.length = 1 ∨ u.length = 2 ∨ u.length = 3 ∨ u.length = 4 ∨ u.length = 5 ∨ u.length = 6 ∨ u.length = 7 := by omega
  refine ⟨leNum u + 256 ^ u.length * 256 ^ (7 - u.length), ?_, ?_, ?_⟩
  · have hs : smallF (leNum u + 256 ^ u.length * 256 ^ (7 - u.length)) ≠ true := by
      intro hh
      unfold smallF inF at hh
      rw [Bool.and_eq_true, decide_eq_true_eq, decide_eq_true_eq] at hh
      rcases hc with e | e | e | e | e | e | e | e <;> rw [e] at h hh <;> simp only [Nat.reduceSub, Int.reducePow, Int.reduceMul] at h hh <;> omega
    simpa using hs
  · unfold I64
    rcases hc with e | e | e | e | e | e | e | e <;> rw [e] at h ⊢ <;> simp only [Nat.reduceSub, Int.reducePow, Int.reduceMul] at h ⊢ <;> omega
  · have e := leBytes_num 8 u (256 ^ (7 - u.length)) (by omega)
    unfold immF
    rw [e]
    obtain ⟨j, hj⟩ : ∃ j, 8 - u.length = j + 1 := ⟨8 - u.length - 1, by omega⟩
    rw [hj]
    exact ⟨_, _, rfl⟩
theorem Qb.imm {l u : List UInt8} {n : Int} {k : Nat} (h : ∃ x w, immF n k = u ++ x :: w) : Qb (l ++ u) (l ++ immF n k) := by
  obtain ⟨x, w, e⟩ := h
  rw [e, ← List.append_assoc]
  exact Qb.mk
theorem Pre.immC4 (h : Pre bs r l) (c : Cu (immD bs r 4)) : ∃ n, smallF n = true ∧ Qb bs (l ++ immF n 4) := by
  obtain ⟨u, hu, rfl⟩ := h.immC 4 c
  obtain ⟨n, h1, h2⟩ := part4 hu
  exact ⟨n, h1, Qb.imm h2⟩
theorem Pre.immC8 (h : Pre bs r l) (c : Cu (immD bs r 8)) : ∃ n, smallF n = false ∧ I64 n ∧ Qb bs (l ++ immF n 8) := by
  obtain ⟨u, hu, rfl⟩ := h.immC 8 c
  obtain ⟨n, h1, h3, h2⟩ := part8 hu
  exact ⟨n, h1, h3, Qb.imm h2⟩
theorem Pre.immC1 (h : Pre bs r l) (c : Cu (immD bs r 1)) : Qb bs (l ++ immF 0 1) := by
  obtain ⟨u, hu, rfl⟩ := h.immC 1 c
  obtain rfl : u = [] := List.eq_nil_of_length_eq_zero (by omega)
  rw [List.append_nil]
  exact Qb.mk
theorem Pre.memC (h : Pre bs r l) {x : Rx} (hx : RxOk x) (c : Cu (memD bs r)) : ∃ p q n, (0 ≤ p ∧ p ≤ 15) ∧ (0 ≤ q ∧ q ≤ 15) ∧ p / 8 * 8 = x.reg ∧ q / 8 * 8 = x.rm ∧ smallF n = true ∧ Qb bs (l ++ memF p q n) := by
  have hp := hx.p
  have hq := hx.q
  have hr := next_range bs r
  have first : bs = l → ∃ p q n, (0 ≤ p ∧ p ≤ 15) ∧ (0 ≤ q ∧ q ≤ 15) ∧ p / 8 * 8 = x.reg ∧ q / 8 * 8 = x.rm ∧ smallF n = true ∧ Qb bs (l ++ memF p q n) := by
    rintro rfl
    exact ⟨x.reg, x.rm, 0, by omega, by omega, by omega, by omega, rfl, Qb.mk⟩
  have part : Ok (memD1 bs r) → Pre bs (memD1 bs r) (l ++ [byteOf (nextF bs r).1]) ∧ (nextF bs r).1 / 64 = 2 := by
    intro ok1
    obtain ⟨h1, h2, h3⟩ := ok_must ok1
    have hn := h.next h1
    rw [decide_eq_true_eq] at h2
    refine ⟨?_, h2⟩
    unfold memD1
    rw [h3]
    exact hn
  have e : (nextF bs r).1 / 64 = 2 → memN (x.reg + (nextF bs r).1 / 8 % 8) (x.rm + (nextF bs r).1 % 8) = (nextF bs r).1 := by unfold memN; omega
  have e4 : (x.rm + (nextF bs r).1 % 8) % 8 = (nextF bs r).1 % 8 := by omega
  have rest : ∀ n, smallF n = true → (nextF bs r).1 / 64 = 2 → Qb bs (l ++ memF (x.reg + (nextF bs r).1 / 8 % 8) (x.rm + (nextF bs r).1 % 8) n) → ∃ p q n, (0 ≤ p ∧ p ≤ 15) ∧ (0 ≤ q ∧ q ≤ 15) ∧ p / 8 * 8 = x.reg ∧ q / 8 * 8 = x.rm ∧ smallF n = true ∧ Qb bs (l ++ memF p q n) :=
    fun n hn h2 hQ => ⟨_, _, n, by omega, by omega, by omega, by omega, hn, hQ⟩
  have c1 : Cu (memD1 bs r) → bs = l := fun c => h.nextC (cu_must c)
  rcases cu_imm0 4 c with c2 | ok2
  · unfold memD2 at c2
    by_cases h4 : (nextF bs r).1 % 8 = 4
    · rw [if_pos h4] at c2
      rcases cu_next (cu_must c2) with c3 | ⟨ok1, ha⟩
      · exact first (c1 c3)
      · obtain ⟨hd1, h2⟩ := part ok1
        have hb := hd1.all ha
        refine rest 0 rfl h2 ?_
        unfold memF
        rw [e h2, e4, if_pos h4]
        refine ⟨36 :: immF 0 4, List.cons_ne_nil _ _, ?_⟩
        conv => lhs; arg 1; rw [hb]
        rw [List.append_assoc]
        rfl
    · rw [if_neg h4] at c2
      exact first (c1 c2)
  · have hd2 : Pre bs (memD2 bs r) (l ++ (byteOf (nextF bs r).1 :: (if (nextF bs r).1 % 8 = 4 then [36] else []))) ∧ (nextF bs r).1 / 64 = 2 := by
      unfold memD2 at ok2 ⊢
      by_cases h4 : (nextF bs r).1 % 8 = 4
      · rw [if_pos h4] at ok2 ⊢
        rw [if_pos h4]
        obtain ⟨g1, g2, g3⟩ := ok_must ok2
        rw [decide_eq_true_eq] at g2
        obtain ⟨hd1, h2⟩ := part (ok_next g1)
        have := hd1.next g1
        rw [g2, List.append_assoc] at this
        rw [g3]
        exact ⟨this, h2⟩
      · rw [if_neg h4] at ok2 ⊢
        rw [if_neg h4]
        exact part ok2
    obtain ⟨hd2, h2⟩ := hd2
    obtain ⟨n, hn, hQ⟩ := hd2.immC4 c
    refine rest n hn h2 ?_
    unfold memF
    rw [e h2, e4]
    rw [List.append_assoc] at hQ
    exact hQ
/-- What is cut has a way on. -/
def Wn (bs : List UInt8) (p : Ins × Rd) : Prop := Cu p.2 → ∃ i, validF i = true ∧ I64 i.imm ∧ Qb bs (encF i)
theorem Wn.no {i : Ins} {r : Rd} {is : Bool} (h : Ok r) : Wn bs (i, mustF r is) := fun c => (not_cu h (cu_must c)).elim
theorem rx15 {x : Rx} (hx : RxOk x) : (0 ≤ x.reg ∧ x.reg ≤ 15) ∧ (0 ≤ x.rm ∧ x.rm ≤ 15) ∧ x.reg / 8 * 8 = x.reg ∧ x.rm / 8 * 8 = x.rm := by
  have h1 := hx.p
  have h2 := hx.q
  omega
theorem movedR_wn {x : Rx} (hx : RxOk x) (hw : x.wide = 1) (h : Pre bs r [byteOf (rexB x), 137]) : Wn bs (movedR bs x r) := by
  obtain ⟨x1, x2, x3, x4⟩ := rx15 hx
  unfold movedR
  split
  · intro c
    obtain ⟨p, q, n, hp, hq, rp, rq, hn, hk⟩ := h.memC hx c
    refine ⟨⟨4, q, p, 0, 8, n⟩, valid_fl (f := 23) rfl hq hp R15 rfl rfl rfl rfl rfl ?_, small_i64 hn, ?_⟩
    · show ((decide ((8 : Int) = 8) || decide ((8 : Int) = 4) || decide ((8 : Int) = 1)) && smallF n) = true
      rw [hn]; rfl
    · rw [rexB1 hw rp rq] at hk; exact hk
  · intro c
    obtain rfl := h.twoC c
    refine ⟨⟨1, x.rm, x.reg, 0, 0, 0⟩, valid_fl (f := 3) rfl x2 x1 R15 rfl rfl rfl rfl rfl rfl, I64_0, ?_⟩
    rw [rexB1 hw x3 x4]
    exact Qb.mk
theorem farIn_wn {x : Rx} {op : Int} (hx : RxOk x) (hop : 0 ≤ op ∧ op ≤ 255) (h : Pre bs r [byteOf (rexB x), 15, byteOf op]) : Wn bs (farIn bs x op r) := by
  have hA := ands hop
  obtain ⟨x1, x2, x3, x4⟩ := rx15 hx
  unfold farIn
  split
  · rename_i hc
    rw [Bool.and_eq_true, decide_eq_true_eq, decide_eq_true_eq] at hc
    have ho := hA.2.2.1 hc.2
    intro c
    obtain ⟨hr0, rfl⟩ := h.oneC (cu_must c)
    refine ⟨⟨32, x.rm, 0, op % 16, 0, 0⟩, valid_fl (f := 9) rfl x2 R15 (m16 op) rfl rfl rfl rfl rfl rfl, I64_0, ?_⟩
    rw [rexB0 (p := 0) (q := x.rm) hc.1 hr0.symm x4]
    show Qb [_, 15, byteOf op] [_, 15, byteOf (144 + op % 16), _]
    rw [← ho]
    exact Qb.mk (l := [_, _, _])
  split
  · rename_i _ hc
    rw [Bool.and_eq_true, decide_eq_true_eq, decide_eq_true_eq] at hc
    have ho := hA.2.2.2.1 hc.2
    intro c
    obtain rfl := h.twoC c
    refine ⟨⟨34, x.reg, x.rm, op % 16, 0, 0⟩, valid_fl (f := 11) rfl x1 x2 (m16 op) rfl rfl rfl rfl rfl rfl, I64_0, ?_⟩
    rw [rexB1 hc.1 x3 x4]
    show Qb [_, 15, byteOf op] [_, 15, byteOf (64 + op % 16), _]
    rw [← ho]
    exact Qb.mk (l := [_, _, _])
  split
  · rename_i _ _ hc
    rw [Bool.and_eq_true, decide_eq_true_eq, decide_eq_true_eq] at hc
    intro c
    obtain rfl := h.twoC c
    refine ⟨⟨21, x.reg, x.rm, 0, 0, 0⟩, valid_fl (f := 3) rfl x1 x2 R15 rfl rfl rfl rfl rfl rfl, I64_0, ?_⟩
    rw [rexB1 hc.1 x3 x4, hc.2]
    exact Qb.mk (l := [_, _, _])
  split
  · rename_i _ _ _ hc
    rw [Bool.and_eq_true, decide_eq_true_eq, decide_eq_true_eq] at hc
    split
    · intro c
      obtain ⟨p, q, n, hp, hq, rp, rq, hn, hk⟩ := h.memC hx c
      refine ⟨⟨3, p, q, 0, 1, n⟩, valid_fl (f := 23) rfl hp hq R15 rfl rfl rfl rfl rfl ?_, small_i64 hn, ?_⟩
      · show ((decide ((1 : Int) = 8) || decide ((1 : Int) = 4) || decide ((1 : Int) = 1)) && smallF n) = true
        rw [hn]; rfl
      · rw [rexB1 hc.1 rp rq, hc.2] at hk; exact hk
    · intro c
      obtain rfl := h.twoC c
      refine ⟨⟨33, x.reg, x.rm, 0, 0, 0⟩, valid_fl (f := 3) rfl x1 x2 R15 rfl rfl rfl rfl rfl rfl, I64_0, ?_⟩
      rw [rexB1 hc.1 x3 x4, hc.2]
      exact Qb.mk (l := [_, _, _])
  · exact Wn.no (pre_ok h)
theorem far_wn {x : Rx} (hx : RxOk x) (h : Pre bs r [byteOf (rexB x), 15]) : Wn bs (farR bs x r) := by
  obtain ⟨x1, x2, x3, x4⟩ := rx15 hx
  unfold farR
  split
  · intro c
    have hw : (farD1 x r).wrong = false := by have := c.2; rwa [show (nextF bs (farD1 x r)).2.wrong = _ from next_keeps _ _] at this
    obtain ⟨_, h2, h3⟩ := must_or (pre_ok h) hw
    rw [show farD1 x r = r from h3] at c
    obtain rfl := h.nextC c
    rw [Bool.or_eq_true, decide_eq_true_eq, decide_eq_true_eq] at h2
    by_cases hw1 : x.wide = 1
    · refine ⟨⟨21, x.reg, x.rm, 0, 0, 0⟩, valid_fl (f := 3) rfl x1 x2 R15 rfl rfl rfl rfl rfl rfl, I64_0, ?_⟩
      rw [rexB1 hw1 x3 x4]
      exact Qb.mk (l := [_, _])
    · have hr0 := h2.resolve_left hw1
      have hw0 : x.wide = 0 := hx.w.resolve_right hw1
      refine ⟨⟨32, x.rm, 0, 0, 0, 0⟩, valid_fl (f := 9) rfl x2 R15 R15 rfl rfl rfl rfl rfl rfl, I64_0, ?_⟩
      rw [rexB0 (p := 0) (q := x.rm) hw0 hr0.symm x4]
      exact Qb.mk (l := [_, _])
  · rename_i hc
    have ok : Ok (nextF bs (farD1 x r)).2 := by
      rw [Bool.or_eq_true, not_or, Bool.not_eq_true, Bool.not_eq_true] at hc
      exact hc
    obtain ⟨h1, h2, h3⟩ := ok_must (ok_next ok)
    have e : farD1 x r = r := h3
    rw [e] at ok ⊢
    exact farIn_wn hx (next_range bs r) (h.next ok)
theorem narrow_wn {x : Rx} {op : Int} (hx : RxOk x) (hw : x.wide = 0) (hop : 0 ≤ op ∧ op ≤ 255) (h : Pre bs r [byteOf (rexB x), byteOf op]) : Wn bs (narrowR bs x op r) := by
  obtain ⟨x1, x2, x3, x4⟩ := rx15 hx
  unfold narrowR
  split
  · rename_i hc
    intro c
    obtain ⟨p, q, n, hp, hq, rp, rq, hn, hk⟩ := h.memC hx c
    refine ⟨⟨3, p, q, 0, 4, n⟩, valid_fl (f := 23) rfl hp hq R15 rfl rfl rfl rfl rfl ?_, small_i64 hn, ?_⟩
    · show ((decide ((4 : Int) = 8) || decide ((4 : Int) = 4) || decide ((4 : Int) = 1)) && smallF n) = true
      rw [hn]; rfl
    · rw [rexB0 hw rp rq, hc] at hk; exact hk
  split
  · rename_i _ hc
    intro c
    obtain ⟨p, q, n, hp, hq, rp, rq, hn, hk⟩ := h.memC hx c
    refine ⟨⟨4, q, p, 0, 4, n⟩, valid_fl (f := 23) rfl hq hp R15 rfl rfl rfl rfl rfl ?_, small_i64 hn, ?_⟩
    · show ((decide ((4 : Int) = 8) || decide ((4 : Int) = 4) || decide ((4 : Int) = 1)) && smallF n) = true
      rw [hn]; rfl
    · rw [rexB0 hw rp rq, hc] at hk; exact hk
  split
  · rename_i _ _ hc
    intro c
    obtain ⟨p, q, n, hp, hq, rp, rq, hn, hk⟩ := h.memC hx c
    refine ⟨⟨4, q, p, 0, 1, n⟩, valid_fl (f := 23) rfl hq hp R15 rfl rfl rfl rfl rfl ?_, small_i64 hn, ?_⟩
    · show ((decide ((1 : Int) = 8) || decide ((1 : Int) = 4) || decide ((1 : Int) = 1)) && smallF n) = true
      rw [hn]; rfl
    · rw [rexB0 hw rp rq, hc] at hk; exact hk
  split
  · rename_i _ _ _ hc
    intro c
    obtain ⟨hr0, rfl⟩ := h.oneC (cu_must c)
    refine ⟨⟨38, x.rm, 0, 0, 0, 0⟩, valid_fl (f := 1) rfl x2 R15 R15 rfl rfl rfl rfl rfl rfl, I64_0, ?_⟩
    rw [rexB0 (p := 0) (q := x.rm) hw hr0.symm x4, hc]
    exact Qb.mk (l := [_, _])
  split
  · exact Wn.no (pre_ok h)
  split
  · exact Wn.no (pre_ok h)
  · exact Wn.no (pre_ok h)
theorem numbered_wn {x : Rx} {op : Int} (hx : RxOk x) (hw : x.wide = 1) (hop : op = 129 ∨ op = 247 ∨ op = 211 ∨ op = 193) (h : Pre bs r [byteOf (rexB x), byteOf op]) : Wn bs (numberedR bs x op r) := by
  obtain ⟨x1, x2, x3, x4⟩ := rx15 hx
  have hN : Ok (numD1 bs x op r) → ∃ n q, oneV bs x r = (n, q) ∧ (0 ≤ q ∧ q ≤ 15) ∧ byteOf (rexB x) = byteOf (rexN true 0 q) ∧ 0 < kindN op n 16 ∧ (0 ≤ n ∧ n ≤ 7) ∧ Pre bs (numD1 bs x op r) [byteOf (rexB x), byteOf op, byteOf (twoN n q)] := by
    intro ok
    obtain ⟨ok1, ok2, ok3⟩ := ok_must ok
    obtain ⟨p, q, e, hp, hq, rp, rq, hk⟩ := h.one hx ok1
    rw [e, decide_eq_true_eq] at ok2
    refine ⟨p, q, e, hq, by rw [rexB1 (p := 0) (q := q) hw rp.symm rq], ok2, hp, ?_⟩
    unfold numD1
    rw [ok3]
    exact hk
  have hC : Cu (numD1 bs x op r) → byteOf (rexB x) = byteOf (rexN true 0 x.rm) ∧ bs = [byteOf (rexB x), byteOf op] := by
    intro c
    obtain ⟨hr0, e⟩ := h.oneC (cu_must c)
    exact ⟨by rw [rexB1 (p := 0) (q := x.rm) hw hr0.symm x4], e⟩
  unfold numberedR
  split
  · rename_i hc
    intro c
    rcases cu_imm0 4 c with c0 | ok
    · obtain ⟨e1, e2⟩ := hC c0
      refine ⟨⟨15, x.rm, 0, 0, 0, 0⟩, valid_fl (f := 5) rfl x2 R15 R15 rfl rfl rfl rfl rfl rfl, I64_0, ?_⟩
      rw [e2, e1, hc]
      exact Qb.mk (l := [_, _])
    · obtain ⟨n, q, e, hq, hx2, hk0, hn, hk⟩ := hN ok
      obtain ⟨k1, k2, k3, _, k5⟩ := num_kinds hn hop hk0
      rw [if_pos hc] at k2 k3
      obtain ⟨m, hm, hQ⟩ := hk.immC4 c
      refine ⟨⟨kindN op n 16, q, 0, 0, 0, m⟩, valid_fl k3 hq R15 R15 rfl rfl rfl rfl rfl (sized_mid (k5 (by omega)) hm), small_i64 hm, ?_⟩
      rw [enc1 k2]
      dsimp only
      rw [k1, ← hx2]
      exact hQ
  split
  · rename_i hc0 hc
    intro c
    have c := cu_must c
    rcases cu_imm0 1 c with c0 | ok
    · obtain ⟨e1, e2⟩ := hC c0
      refine ⟨⟨29, x.rm, 0, 0, 0, 0⟩, valid_fl (f := 5) rfl x2 R15 R15 rfl rfl rfl rfl rfl rfl, I64_0, ?_⟩
      rw [e2, e1, hc]
      exact Qb.mk (l := [_, _])
    · obtain ⟨n, q, e, hq, hx2, hk0, hn, hk⟩ := hN ok
      obtain ⟨k1, k2, k3, k4, _⟩ := num_kinds hn hop hk0
      rw [if_neg hc0, if_pos hc] at k2 k3
      have hQ := hk.immC1 c
      have hi : sizedF ⟨kindN op n 16, q, 0, 0, 0, 0⟩ = true := by
        have := k4 hc
        unfold sizedF
        dsimp only
        rw [if_neg (by omega), if_neg (by omega), if_pos this]
        rfl
      refine ⟨⟨kindN op n 16, q, 0, 0, 0, 0⟩, valid_fl k3 hq R15 R15 rfl rfl rfl rfl rfl hi, I64_0, ?_⟩
      rw [enc3 k2]
      dsimp only
      rw [k1, ← hx2]
      exact hQ
  · rename_i hc0 hc
    intro c
    obtain ⟨e1, e2⟩ := hC c
    have ho : op = 247 ∨ op = 211 := by omega
    rcases ho with ho | ho
    · refine ⟨⟨22, x.rm, 0, 0, 0, 0⟩, valid_fl (f := 1) rfl x2 R15 R15 rfl rfl rfl rfl rfl rfl, I64_0, ?_⟩
      rw [e2, e1, ho]
      exact Qb.mk (l := [_, _])
    · refine ⟨⟨26, x.rm, 0, 0, 0, 0⟩, valid_fl (f := 1) rfl x2 R15 R15 rfl rfl rfl rfl rfl rfl, I64_0, ?_⟩
      rw [e2, e1, ho]
      exact Qb.mk (l := [_, _])
theorem prefIn_wn {x : Rx} {op : Int} (hx : RxOk x) (hop : 0 ≤ op ∧ op ≤ 255) (h : Pre bs r [byteOf (rexB x), byteOf op]) : Wn bs (prefIn bs x op r) := by
  have hA := ands hop
  obtain ⟨x1, x2, x3, x4⟩ := rx15 hx
  unfold prefIn
  split
  · rename_i hc
    rw [hc] at h
    exact far_wn hx h
  split
  · rename_i _ hw
    exact narrow_wn hx hw hop h
  have hw : x.wide = 1 := rex_w hx (by assumption)
  split
  · rename_i _ _ hc
    have ho := hA.2.2.2.2.2.2.2.2 hc
    intro c
    have c := cu_must c
    rcases cu_imm0 8 c with c0 | ok
    · exact (not_cu (pre_ok h) (cu_must c0)).elim
    · obtain ⟨ok4, ok5, ok6⟩ := ok_must ok
      rw [decide_eq_true_eq] at ok5
      obtain ⟨g1, g2, g3⟩ := d8 hx op
      have c : Cu (immD bs (mustF r (decide (x.reg = 0))) 8) := c
      rw [ok6] at c
      obtain ⟨n, hn, hn2, hQ⟩ := h.immC8 c
      refine ⟨⟨2, orI x.rm (op % 8), 0, 0, 0, n⟩, valid_fl (f := 5) rfl g1 R15 R15 rfl rfl rfl rfl rfl rfl, hn2, ?_⟩
      rw [enc5 rfl]
      dsimp only
      rw [if_neg (by rw [hn]; exact fun q => Bool.noConfusion q), g3, ← ho]
      rw [rexB1 (p := 0) hw ok5.symm g2] at hQ
      exact hQ
  split
  · rename_i _ _ _ hc
    intro c
    obtain ⟨p, q, n, hp, hq, rp, rq, hn, hk⟩ := h.memC hx c
    refine ⟨⟨3, p, q, 0, 8, n⟩, valid_fl (f := 23) rfl hp hq R15 rfl rfl rfl rfl rfl ?_, small_i64 hn, ?_⟩
    · show ((decide ((8 : Int) = 8) || decide ((8 : Int) = 4) || decide ((8 : Int) = 1)) && smallF n) = true
      rw [hn]; rfl
    · rw [rexB1 hw rp rq, hc] at hk; exact hk
  split
  · rename_i _ _ _ _ hc
    intro c
    obtain ⟨p, q, n, hp, hq, rp, rq, hn, hk⟩ := h.memC hx c
    refine ⟨⟨5, p, q, 0, 0, n⟩, valid_fl (f := 7) rfl hp hq R15 rfl rfl rfl rfl rfl ?_, small_i64 hn, ?_⟩
    · exact hn
    · rw [rexB1 hw rp rq, hc] at hk; exact hk
  split
  · rename_i _ _ _ _ _ hc
    rw [hc] at h
    exact movedR_wn hx hw h
  split
  · rename_i _ _ _ _ _ _ hc
    intro c
    rcases cu_imm0 4 c with c0 | ok
    · obtain ⟨hr0, rfl⟩ := h.oneC (cu_must c0)
      refine ⟨⟨2, x.rm, 0, 0, 0, 0⟩, valid_fl (f := 5) rfl x2 R15 R15 rfl rfl rfl rfl rfl rfl, I64_0, ?_⟩
      rw [rexB1 (p := 0) hw hr0.symm x4, hc]
      exact Qb.mk (l := [_, _])
    · obtain ⟨ok1, ok2, ok3⟩ := ok_must ok
      obtain ⟨p, q, e, hp, hq, rp, rq, hk⟩ := h.one hx ok1
      rw [e, decide_eq_true_eq] at ok2
      dsimp only at ok2
      subst ok2
      have c : Cu (immD bs (mustF (oneD bs x r) (decide ((oneV bs x r).1 = 0))) 4) := c
      rw [ok3] at c
      obtain ⟨n, hn, hQ⟩ := hk.immC4 c
      refine ⟨⟨2, q, 0, 0, 0, n⟩, valid_fl (f := 5) rfl hq R15 R15 rfl rfl rfl rfl rfl rfl, small_i64 hn, ?_⟩
      rw [enc5 rfl]
      dsimp only
      rw [if_pos hn]
      rw [rexB1 (p := 0) hw rp.symm rq, hc] at hQ
      exact hQ
  split
  · rename_i _ _ _ _ _ _ _ hc
    exact numbered_wn hx hw hc h
  split
  · rename_i k hc
    obtain ⟨ho, hm⟩ := kindP_mem hc
    obtain ⟨c0, cf, cr⟩ := kindP_cls k hm
    intro c
    obtain rfl := h.twoC c
    refine ⟨⟨k, x.rm, x.reg, 0, 0, 0⟩, valid_fl cf x2 x1 R15 rfl rfl rfl rfl rfl (sized_low cr rfl), I64_0, ?_⟩
    rw [enc0 c0]
    dsimp only
    rw [rexB1 hw x3 x4, ho]
    exact Qb.mk (l := [_, _])
  · exact Wn.no (pre_ok h)
theorem pref_wn {x : Rx} (hx : RxOk x) (h : Pre bs r [byteOf (rexB x)]) : Wn bs (prefR bs x r) := by
  obtain ⟨x1, x2, x3, x4⟩ := rx15 hx
  unfold prefR
  split
  · intro c
    obtain rfl := h.nextC c
    rcases hx.w with hw | hw
    · refine ⟨⟨3, x.reg, x.rm, 0, 4, 0⟩, valid_fl (f := 23) rfl x1 x2 R15 rfl rfl rfl rfl rfl rfl, I64_0, ?_⟩
      rw [rexB0 hw x3 x4]
      exact Qb.mk (l := [_])
    · refine ⟨⟨1, x.rm, x.reg, 0, 0, 0⟩, valid_fl (f := 3) rfl x2 x1 R15 rfl rfl rfl rfl rfl rfl, I64_0, ?_⟩
      rw [rexB1 hw x3 x4]
      exact Qb.mk (l := [_])
  · rename_i hc
    have ok : Ok (nextF bs r).2 := by
      rw [Bool.or_eq_true, not_or, Bool.not_eq_true, Bool.not_eq_true] at hc
      exact hc
    exact prefIn_wn hx (next_range bs r) (h.next ok)
theorem wr_pref {x : Rx} (h : (prefR bs x r).2.wrong = false) : r.wrong = false := by
  unfold prefR at h
  split at h
  · rwa [show (nextF bs r).2.wrong = _ from next_keeps _ _] at h
  · rename_i hc
    rw [Bool.or_eq_true, not_or, Bool.not_eq_true, Bool.not_eq_true, next_keeps] at hc
    exact hc.2
/-- Behind 66 or F2 and a REX byte there is always one. -/
theorem real_any {x : Rx} {first : Int} (hx : RxOk x) (hf : first = 102 ∨ first = 242) : ∃ op i y, validF i = true ∧ I64 i.imm ∧ encF i = [byteOf first, byteOf (rexB x), 15, op, y] := by
  obtain ⟨x1, x2, x3, x4⟩ := rx15 hx
  rcases hf with rfl | rfl <;> rcases hx.w with hw | hw
  · exact ⟨46, ⟨51, x.reg, x.rm, 0, 0, 0⟩, _, valid_fl (f := 3) rfl x1 x2 R15 rfl rfl rfl rfl rfl rfl, I64_0, by rw [rexB0 hw x3 x4]; rfl⟩
  · exact ⟨110, ⟨45, x.reg, x.rm, 0, 0, 0⟩, _, valid_fl (f := 3) rfl x1 x2 R15 rfl rfl rfl rfl rfl rfl, I64_0, by rw [rexB1 hw x3 x4]; rfl⟩
  · exact ⟨88, ⟨47, x.reg, x.rm, 0, 0, 0⟩, _, valid_fl (f := 3) rfl x1 x2 R15 rfl rfl rfl rfl rfl rfl, I64_0, by rw [rexB0 hw x3 x4]; rfl⟩
  · exact ⟨42, ⟨52, x.reg, x.rm, 0, 0, 0⟩, _, valid_fl (f := 3) rfl x1 x2 R15 rfl rfl rfl rfl rfl rfl, I64_0, by rw [rexB1 hw x3 x4]; rfl⟩
theorem realIn_wn {x : Rx} {first op : Int} (hx : RxOk x) (h : Pre bs r [byteOf first, byteOf (rexB x), 15, byteOf op]) : Wn bs (realIn bs first x op r) := by
  obtain ⟨x1, x2, x3, x4⟩ := rx15 hx
  unfold realIn
  split
  · rename_i hc
    rw [Bool.and_eq_true, Bool.and_eq_true, decide_eq_true_eq, decide_eq_true_eq, decide_eq_true_eq] at hc
    obtain ⟨⟨hf, hw⟩, ho⟩ := hc
    intro c
    obtain rfl := h.twoC c
    refine ⟨⟨46, x.rm, x.reg, 0, 0, 0⟩, valid_fl (f := 3) rfl x2 x1 R15 rfl rfl rfl rfl rfl rfl, I64_0, ?_⟩
    rw [rexB1 hw x3 x4, hf, ho]
    exact Qb.mk (l := [_, _, _, _])
  · intro c
    have c1 : Cu (nextF bs (mustF r (decide (0 < realK first x op)))).2 := cu_must c
    have hw : (mustF r (decide (0 < realK first x op))).wrong = false := by have := c1.2; rwa [next_keeps] at this
    obtain ⟨_, h2, h3⟩ := must_or (pre_ok h) hw
    rw [h3] at c1
    obtain rfl := h.nextC c1
    rw [decide_eq_true_eq] at h2
    rcases realK_pos h2 with ⟨hf, hw, ho, hk2⟩ | ⟨hf, hw, ho, hk2⟩ | ⟨hf, hw, ho, hk2⟩ | ⟨hf, hw, ho, hk2⟩ | ⟨hf, hw, ho, hk2⟩ | ⟨hf, hw, ho, hk2⟩ | ⟨hf, hw, ho, hk2⟩
    all_goals refine ⟨⟨realK first x op, x.reg, x.rm, 0, 0, 0⟩, ?_, I64_0, ?_⟩ <;> rw [hk2]
    all_goals first | exact valid_fl (f := 3) rfl x1 x2 R15 rfl rfl rfl rfl rfl rfl | (rw [rexB1 hw x3 x4, hf, ho]; exact Qb.mk (l := [_, _, _, _])) | (rw [rexB0 hw x3 x4, hf, ho]; exact Qb.mk (l := [_, _, _, _]))
theorem real_wn {first : Int} (hf : first = 102 ∨ first = 242) (h : Pre bs r [byteOf first]) : Wn bs (realR bs first r) := by
  have hr := next_range bs r
  have n1 := next_or bs (pre_ok h).2
  have s1 : Ok (realD1 bs r) → realD1 bs r = (nextF bs r).2 ∧ Pre bs (realD1 bs r) [byteOf first, byteOf (nextF bs r).1] ∧ byteOf (rexB (splitF (nextF bs r).1)) = byteOf (nextF bs r).1 := by
    intro ok
    obtain ⟨b1, b2, b3⟩ := ok_must ok
    rw [decide_eq_true_eq] at b2
    have e1 : realD1 bs r = (nextF bs r).2 := b3
    exact ⟨e1, by rw [e1]; exact h.next b1, by rw [split_rex ((ands hr).2.1 b2)]⟩
  have s2 : Ok (realD2 bs r) → realD2 bs r = (nextF bs (realD1 bs r)).2 ∧ Ok (realD1 bs r) ∧ Pre bs (realD2 bs r) [byteOf first, byteOf (nextF bs r).1, 15] := by
    intro ok
    obtain ⟨a1, a2, a3⟩ := ok_must ok
    have e2 : realD2 bs r = (nextF bs (realD1 bs r)).2 := a3
    have ok1 := ok_next a1
    obtain ⟨_, p1, _⟩ := s1 ok1
    have p2 := p1.next a1
    rw [decide_eq_true_eq] at a2
    rw [a2] at p2
    exact ⟨e2, ok1, by rw [e2]; exact p2⟩
  unfold realR
  split
  · intro c
    obtain rfl := h.nextC c
    obtain ⟨op, i, y, hv, hi, he⟩ := real_any (split_ok 64) hf
    exact ⟨i, hv, hi, by rw [he]; exact Qb.mk (l := [_])⟩
  rename_i hnc
  have okn : Ok (nextF bs r).2 := ⟨by rwa [Bool.not_eq_true] at hnc, by rw [next_keeps]; exact (pre_ok h).2⟩
  split
  · intro c
    have hw2 : (realD2 bs r).wrong = false := by have := c.2; rwa [show (nextF bs (realD2 bs r)).2.wrong = _ from next_keeps _ _] at this
    have hw1 : (realD1 bs r).wrong = false := by
      unfold realD2 mustF at hw2
      split at hw2
      · exact absurd (show true = false from hw2) (fun q => Bool.noConfusion q)
      · rwa [next_keeps] at hw2
    obtain ⟨ok1, _, _⟩ := must_or okn hw1
    obtain ⟨e1, p1, hrx⟩ := s1 ok1
    obtain ⟨op, i, y, hv, hi, he⟩ := real_any (split_ok (nextF bs r).1) hf
    rw [hrx] at he
    rcases cu_next c with c2 | ⟨ok2, ha⟩
    · have hb := p1.nextC (cu_must c2)
      refine ⟨i, hv, hi, ?_⟩
      rw [he]
      conv => lhs; rw [hb]
      exact Qb.mk (l := [_, _])
    · obtain ⟨_, _, p2⟩ := s2 ok2
      have hb := p2.all ha
      refine ⟨i, hv, hi, ?_⟩
      rw [he]
      conv => lhs; rw [hb]
      exact Qb.mk (l := [_, _, _])
  · rename_i hc
    have ok : Ok (nextF bs (realD2 bs r)).2 := by
      rw [Bool.or_eq_true, not_or, Bool.not_eq_true, Bool.not_eq_true] at hc
      exact hc
    obtain ⟨e2, ok1, p2⟩ := s2 (ok_next ok)
    obtain ⟨e1, p1, hrx⟩ := s1 ok1
    refine realIn_wn (split_ok _) ?_
    rw [hrx]
    exact p2.next ok
theorem insTwo_wn (h : Pre bs r [15]) : Wn bs (insTwo bs r) := by
  have hr := next_range bs r
  have hcut : Cu (nextF bs r).2 → ∃ i, validF i = true ∧ I64 i.imm ∧ Qb bs (encF i) := by
    intro c
    obtain rfl := h.nextC c
    exact ⟨⟨43, 0, 0, 0, 0, 0⟩, rfl, I64_0, Qb.mk (l := [_])⟩
  unfold insTwo
  split
  · exact hcut
  split
  · exact hcut
  split
  · rename_i _ _ hc
    intro c
    rcases cu_imm0 4 c with c0 | ok1
    · exact hcut c0
    · have hk := h.next ok1
      have ho := (ands hr).2.2.2.2.2.1 hc
      obtain ⟨n, hn, hQ⟩ := hk.immC4 c
      refine ⟨⟨36, 0, 0, (nextF bs r).1 % 16, 4, n⟩, valid_fl (f := 28) rfl R15 R15 (m16 _) rfl rfl rfl rfl rfl ?_, small_i64 hn, ?_⟩
      · exact sized_j4 (.inr rfl) rfl hn
      · show Qb bs (15 :: byteOf (128 + (nextF bs r).1 % 16) :: _)
        rw [← ho]; exact hQ
  · exact fun c => hcut (cu_must c)
theorem insIn_wn {v : Int} (hv : 0 ≤ v ∧ v ≤ 255) (h : Pre bs r [byteOf v]) : Wn bs (insIn bs v r) := by
  have hA := ands hv
  unfold insIn
  split
  · rename_i hc
    intro c
    obtain ⟨m1, m2, m3⟩ := must_or (pre_ok h) (wr_pref c.2)
    rw [decide_eq_true_eq] at m2
    have hrx := split_rex (hA.1 hc m2)
    rw [m3] at c
    exact pref_wn (split_ok v) (by rw [hrx]; exact h) c
  split
  · rename_i _ hc
    rw [Bool.or_eq_true, decide_eq_true_eq, decide_eq_true_eq] at hc
    exact real_wn hc h
  split
  · rename_i _ _ hc
    have ho := hA.2.2.2.2.1 hc
    intro c
    have hQ := h.immC1 c
    refine ⟨⟨36, 0, 0, v % 16, 1, 0⟩, valid_fl (f := 28) rfl R15 R15 (m16 _) rfl rfl rfl rfl rfl rfl, I64_0, ?_⟩
    show Qb bs (byteOf (112 + v % 16) :: _)
    rw [← ho]; exact hQ
  split
  · rename_i _ _ _ hc
    intro c
    have hQ := h.immC1 c
    refine ⟨⟨35, 0, 0, 0, 1, 0⟩, rfl, I64_0, ?_⟩
    rw [hc] at hQ
    exact hQ
  split
  · rename_i _ _ _ _ hc
    intro c
    obtain ⟨n, hn, hQ⟩ := h.immC4 c
    refine ⟨⟨35, 0, 0, 0, 4, n⟩, valid_fl (f := 20) rfl R15 R15 R15 rfl rfl rfl rfl rfl ?_, small_i64 hn, ?_⟩
    · exact sized_j4 (.inl rfl) rfl hn
    · rw [hc] at hQ; exact hQ
  split
  · rename_i _ _ _ _ _ hc
    intro c
    obtain ⟨n, hn, hQ⟩ := h.immC4 c
    refine ⟨⟨37, 0, 0, 0, 0, n⟩, valid_fl (f := 4) rfl R15 R15 R15 rfl rfl rfl rfl rfl hn, small_i64 hn, ?_⟩
    rw [hc] at hQ; exact hQ
  split
  · exact fun c => (not_cu (pre_ok h) c).elim
  split
  · rename_i _ _ _ _ _ _ _ hc
    rw [hc] at h
    exact insTwo_wn h
  · exact Wn.no (pre_ok h)
theorem ins_wn (bs : List UInt8) : Wn bs (insR bs rd0) := by
  unfold insR
  split
  · intro c
    obtain rfl := (Pre.start bs).nextC c
    exact ⟨⟨40, 0, 0, 0, 0, 0⟩, rfl, I64_0, Qb.mk (l := [])⟩
  · rename_i hc
    have ok1 : Ok (nextF bs rd0).2 := ⟨by rwa [Bool.not_eq_true] at hc, next_keeps bs rd0⟩
    exact insIn_wn (next_range bs rd0) ((Pre.start bs).next ok1)
/-- What is cut is the beginning of one that may be. -/
theorem cut_ext {bs : List UInt8} (h : decE bs = 202) : ∃ i, validF i = true ∧ I64 i.imm ∧ Qb bs (encF i) := by
  unfold decE at h
  split at h
  · exact absurd h (by decide)
  · split at h
    · rename_i h1 h2
      rw [Bool.not_eq_true] at h1
      exact ins_wn bs ⟨h2, h1⟩
    · exact absurd h (by decide)
end
end Go.Proofs.YtjndpakhmgapjaaDoor

namespace Go.Proofs.YtjndpakhmgapjaaDoor
open Go Go.RowKit
set_option linter.unusedSimpArgs false
set_option linter.unusedVariables false
set_option linter.unnecessarySimpa false
def signF (l : List UInt8) : Int := sgn l.length (leNum l)
def gA (f : FormF) : Nat := if 0 < f.first then 1 else 0
def gB (f : FormF) : Nat := if f.rex = true then gA f + 1 else gA f
def gC (f : FormF) : Nat := gB f + f.op.length
def gX (f : FormF) (bs : List UInt8) : Int := if f.rex = true then byteAt bs (gA f) else 0
def gL (f : FormF) (bs : List UInt8) : Int := byteAt bs (gC f - 1)
def gM (f : FormF) (bs : List UInt8) : Int := byteAt bs (gC f)
def gUp0 (f : FormF) (bs : List UInt8) : Int := gX f bs / 4 % 2 * 8
def gBs0 (f : FormF) (bs : List UInt8) : Int := gX f bs % 2 * 8
def gUp (f : FormF) (bs : List UInt8) : Int := gUp0 f bs + gM f bs / 8 % 8
def gBs (f : FormF) (bs : List UInt8) : Int := gBs0 f bs + gM f bs % 8
def gCd (f : FormF) (bs : List UInt8) : Int := if f.cond = 4 then gL f bs % 16 else 0
def gD0 (f : FormF) (bs : List UInt8) : Int := if f.d = 3 then gBs0 f bs + gL f bs % 8 else 0
def gD1 (f : FormF) (bs : List UInt8) : Int := if f.d = 1 then gUp f bs else gD0 f bs
def gD2 (f : FormF) (bs : List UInt8) : Int := if f.d = 2 then gBs f bs else gD1 f bs
def gS1 (f : FormF) (bs : List UInt8) : Int := if f.s = 1 then gUp f bs else 0
def gS2 (f : FormF) (bs : List UInt8) : Int := if f.s = 2 then gBs f bs else gS1 f bs
def gE2 (f : FormF) (bs : List UInt8) : Nat := if (decide (f.mod = 2) && decide (gM f bs % 8 = 4)) = true then gC f + 1 + 1 else gC f + 1
def gDd (f : FormF) (bs : List UInt8) : Int := if 0 ≤ f.mod then gD2 f bs else gD0 f bs
def gSs (f : FormF) (bs : List UInt8) : Int := if 0 ≤ f.mod then gS2 f bs else 0
def gE (f : FormF) (bs : List UInt8) : Nat := if 0 ≤ f.mod then gE2 f bs else gC f
def part (bs : List UInt8) (a n : Nat) : List UInt8 := (List.range n).map fun k => bs.getD (a + k) 0
def gI (f : FormF) (bs : List UInt8) : Int := signF (part bs (gE f bs) (sizeR f.imm))
def guessF (f : FormF) (bs : List UInt8) : Ins := ⟨f.kind, gDd f bs, gSs f bs, gCd f bs, f.size, gI f bs⟩
def begF (b w : List UInt8) : Bool := decide (b.take w.length = w)
def pad (bs : List UInt8) : List UInt8 := bs ++ List.replicate (10 - bs.length) 1
def cutI (f : FormF) (bs : List UInt8) : Ins := if (decide (f.imm = 7) && smallF (guessF f bs).imm) = true then guessF f (pad bs) else guessF f bs
def cutF (f : FormF) (bs : List UInt8) : Bool := fitsF f (cutI f bs) && (begF (bytesF f (cutI f bs)) bs && decide (bs.length < (bytesF f (cutI f bs)).length))
def hitF (bs : List UInt8) (f : FormF) : Bool := fitsF f (guessF f bs) && begF bs (bytesF f (guessF f bs))
/-! ### numbers -/
theorem part_len (bs : List UInt8) (a n : Nat) : (part bs a n).length = n := by simp [part]
theorem leBytes_le : ∀ u : List UInt8, leBytes u.length (leNum u) = u
  | [] => rfl
  | b :: u => by
    have hb := u8_toNat b
    have ih := leBytes_le u
    rw [show leNum (b :: u) = (b.toNat : Int) + leNum u * 256 by rw [leNum, Int.mul_comm], List.length_cons, leBytes, Int.add_mul_emod_self_right, Int.add_mul_ediv_right _ _ (by decide), Int.ediv_eq_zero_of_lt hb.1 (by omega), Int.zero_add, ih]
    have e2 : UInt8.ofNat ((b.toNat : Int) % 256).toNat = b := byte_of b
    show UInt8.ofNat _ :: _ = _
    rw [e2]
theorem leNum_bytes : ∀ (k : Nat) (n : Int), leNum (leBytes k n) = n % 256 ^ k
  | 0, n => by show (0 : Int) = n % 1; rw [Int.emod_one]
  | k + 1, n => by
    have ih := leNum_bytes k (n / 256)
    have e : ((UInt8.ofNat (n % 256).toNat).toNat : Int) = n % 256 := by
      rw [UInt8.toNat_ofNat']
      omega
    have hp : (256 : Int) ^ (k + 1) = 256 * 256 ^ k := by rw [Int.pow_succ, Int.mul_comm]
    show ((UInt8.ofNat (n % 256).toNat).toNat : Int) + 256 * leNum (leBytes k (n / 256)) = _
    rw [e, ih, hp]
    have h1 := Int.emod_add_mul_ediv n 256
    have h2 := Int.emod_add_mul_ediv (n / 256) (256 ^ k)
    have hp0 : (0 : Int) < 256 ^ k := Int.pow_pos (by decide)
    have h3 := Int.emod_lt_of_pos (n / 256) hp0
    have h4 := Int.emod_nonneg (n / 256) (Int.ne_of_gt hp0)
    have h5 : n = (n % 256 + 256 * (n / 256 % 256 ^ k)) + (256 * 256 ^ k) * (n / 256 / 256 ^ k) := by
      have : n / 256 = n / 256 % 256 ^ k + 256 ^ k * (n / 256 / 256 ^ k) := h2.symm
      rw [Int.mul_assoc]
      omega
    rw [h5]
    rw [Int.add_mul_emod_self_left]
    have h6 := Int.emod_nonneg n (show (256 : Int) ≠ 0 by decide)
    have h7 := Int.emod_lt_of_pos n (show (0 : Int) < 256 by decide)
    have h8 : (n % 256 + 256 * (n / 256 % 256 ^ k)) % 256 = n % 256 := by omega
    have h9 : (n % 256 + 256 * (n / 256 % 256 ^ k)) / 256 = n / 256 % 256 ^ k := by omega
    rw [← h5]
    exact (Int.emod_eq_of_lt (by omega) (by omega)).symm
theorem leBytes_mod8 (k : Nat) (hk : k ≤ 8) (n : Int) : leBytes k (n % 18446744073709551616) = leBytes k n := by
  have h := leBytes_more k (n % 18446744073709551616) (18446744073709551616 / 256 ^ k * (n / 18446744073709551616))
  have hd : (18446744073709551616 : Int) / 256 ^ k * 256 ^ k = 18446744073709551616 := by
    have : k = 0 ∨ k = 1 ∨ k = 2 ∨ k = 3 ∨ k = 4 ∨ k = 5 ∨ k = 6 ∨ k = 7 ∨ k = 8 := by omega
    rcases this with e | e | e | e | e | e | e | e | e <;> rw [e] <;> decide
  rw [← h]
  congr 1
  rw [Int.mul_right_comm, hd]
  exact Int.emod_add_mul_ediv n _
theorem sgn_mod {k : Nat} (hk : k = 1 ∨ k = 4 ∨ k = 8) {n : Int} (h : -(256 ^ k) ≤ 2 * n ∧ 2 * n < 256 ^ k) : sgn k (n % 256 ^ k) = n := by
  unfold sgn
  rcases hk with e | e | e <;> rw [e] at h ⊢ <;> simp only [Int.reducePow, Int.reduceNeg] at h ⊢ <;> split <;> omega
theorem sign_le (u : List UInt8) (hu : u.length ≤ 8) : leBytes u.length (signF u % 18446744073709551616) = u := by
  rw [leBytes_mod8 _ hu]
  unfold signF
  rw [leBytes_sgn, leBytes_le]
theorem sign_range (u : List UInt8) (hu : u.length ≤ 8) : -(256 ^ u.length) ≤ 2 * signF u ∧ 2 * signF u < 256 ^ u.length := by
  have h := leNum_range u
  have hp : (0 : Int) < 256 ^ u.length := Int.pow_pos (by decide)
  unfold signF sgn
  split <;> omega
theorem sign_i64 (u : List UInt8) (hu : u.length ≤ 8) : I64 (signF u) := by
  have h := sign_range u hu
  have hp : (256 : Int) ^ u.length ≤ 18446744073709551616 := by
    have : u.length = 0 ∨ u.length = 1 ∨ u.length = 2 ∨ u.length = 3 ∨ u.length = 4 ∨ u.length = 5 ∨ u.length = 6 ∨ u.length = 7 ∨ u.length = 8 := by omega
    rcases this with e | e | e | e | e | e | e | e | e <;> rw [e] <;> decide
  unfold I64
  omega
theorem sign_zero (n : Nat) : signF (List.replicate n 0) = 0 := by
  have h : leNum (List.replicate n 0) = 0 := by
    induction n with
    | zero => rfl
    | succ n ih => rw [List.replicate_succ, leNum, ih]; rfl
  have hp : (0 : Int) < 256 ^ (List.replicate n (0 : UInt8)).length := Int.pow_pos (by decide)
  unfold signF sgn
  rw [h, if_pos (by omega)]
/-! ### forms -/
structure FormOk2 (f : FormF) : Prop where
  len : 1 ≤ f.op.length
  d : f.d = 0 ∨ f.d = 1 ∨ f.d = 2 ∨ f.d = 3
  s : f.s = 0 ∨ f.s = 1 ∨ f.s = 2
  ds : f.d = 0 ∨ ¬ f.d = f.s
  cond : f.cond = 0 ∨ f.cond = 4
  imm : f.imm = 0 ∨ f.imm = 5 ∨ f.imm = 6 ∨ f.imm = 7
  mod : f.mod = -1 ∧ (f.d = 0 ∨ f.d = 3) ∧ f.s = 0 ∨ (f.mod = 2 ∨ f.mod = 3) ∧ ¬ f.d = 3 ∧ f.rex = true ∧ (f.d = 2 ∨ f.s = 2)
  rex : f.rex = true ∨ f.d = 0 ∧ f.s = 0
  c4 : f.cond = 4 → f.op.getD (f.op.length - 1) 0 % 16 = 0 ∧ ¬ f.d = 3
  d3 : f.d = 3 → f.op.getD (f.op.length - 1) 0 % 8 = 0
  lo : f.op.getD (f.op.length - 1) 0 + (if f.cond = 4 then 15 else 0) + (if f.d = 3 then 7 else 0) ≤ 255
theorem forms_ok2 : ∀ f ∈ formsF, FormOk2 f := by
  have h : formsF.all (fun f => decide (1 ≤ f.op.length) && decide (f.d = 0 ∨ f.d = 1 ∨ f.d = 2 ∨ f.d = 3) && decide (f.s = 0 ∨ f.s = 1 ∨ f.s = 2) && decide (f.d = 0 ∨ ¬ f.d = f.s) && decide (f.cond = 0 ∨ f.cond = 4) && decide (f.imm = 0 ∨ f.imm = 5 ∨ f.imm = 6 ∨ f.imm = 7) && decide (f.mod = -1 ∧ (f.d = 0 ∨ f.d = 3) ∧ f.s = 0 ∨ (f.mod = 2 ∨ f.mod = 3) ∧ ¬ f.d = 3 ∧ f.rex = true ∧ (f.d = 2 ∨ f.s = 2)) && decide (f.rex = true ∨ f.d = 0 ∧ f.s = 0) && decide (f.cond = 4 → f.op.getD (f.op.length - 1) 0 % 16 = 0 ∧ ¬ f.d = 3) && decide (f.d = 3 → f.op.getD (f.op.length - 1) 0 % 8 = 0) && decide (f.op.getD (f.op.length - 1) 0 + (if f.cond = 4 then 15 else 0) + (if f.d = 3 then 7 else 0) ≤ 255)) = true := by decide +kernel
  intro f hf
  have := List.all_eq_true.1 h f hf
  simp only [Bool.and_eq_true, decide_eq_true_eq] at this
  obtain ⟨⟨⟨⟨⟨⟨⟨⟨⟨⟨a, b⟩, c⟩, d⟩, e⟩, g⟩, i⟩, j⟩, k⟩, l⟩, m⟩ := this
  exact ⟨a, b, c, d, e, g, i, j, k, l, m⟩
theorem byteOf_val {v : Int} (h : 0 ≤ v ∧ v ≤ 255) : ((byteOf v).toNat : Int) = v := by
  unfold byteOf
  rw [UInt8.toNat_ofNat']
  omega
theorem byteAt_app {a b : List UInt8} {k : Nat} (h : k < a.length) : byteAt (a ++ b) k = byteAt a k := by
  unfold byteAt
  rw [List.getD_eq_getElem?_getD, List.getD_eq_getElem?_getD, List.getElem?_append_left h]
theorem byteAt_out {a : List UInt8} {k : Nat} (h : a.length ≤ k) : byteAt a k = 0 := by
  unfold byteAt
  rw [List.getD_eq_getElem?_getD, List.getElem?_eq_none h]
  rfl
theorem byteAt_mid {a b : List UInt8} {c : UInt8} {k : Nat} (h : a.length = k) : byteAt (a ++ c :: b) k = (c.toNat : Int) := by
  unfold byteAt
  rw [List.getD_eq_getElem?_getD, List.getElem?_append_right (by omega), h, Nat.sub_self]
  rfl
section
variable {f : FormF} {i : Ins}
theorem r0_len (f : FormF) : (r0 f).length = gA f := by
  unfold r0 gA
  split <;> rfl
theorem r1_len (f : FormF) (i : Ins) : (r1 f i).length = gB f := by
  unfold r1 gB
  rw [List.length_append, r0_len]
  split <;> rfl
theorem r2_len (f : FormF) (i : Ins) (j : Nat) : (r2 f i j).length = gB f + j := by
  unfold r2
  rw [List.length_append, r1_len, List.length_map, List.length_range]
theorem bytes_r0 (f : FormF) (i : Ins) : ∃ t, bytesF f i = r0 f ++ t := by
  unfold bytesF r4 r3 r2 r1
  simp only [List.append_assoc]
  exact ⟨_, rfl⟩
theorem bytes_r1 (f : FormF) (i : Ins) : ∃ t, bytesF f i = r1 f i ++ t := by
  unfold bytesF r4 r3 r2
  simp only [List.append_assoc]
  exact ⟨_, rfl⟩
theorem bytes_r2 (f : FormF) (i : Ins) : bytesF f i = r2 f i f.op.length ++ ((if 0 ≤ f.mod then modB f i else []) ++ leBytes (sizeR f.imm) (i.imm % 18446744073709551616)) := by unfold bytesF r4 r3; simp only [List.append_assoc]
theorem r2_last (h : 1 ≤ f.op.length) : r2 f i f.op.length = r2 f i (f.op.length - 1) ++ [byteOf (opY f i (f.op.length - 1))] := by
  obtain ⟨n, hn⟩ : ∃ n, f.op.length = n + 1 := ⟨f.op.length - 1, by omega⟩
  rw [hn]
  show r2 f i (n + 1) = r2 f i n ++ [byteOf (opY f i n)]
  unfold r2
  rw [List.range_succ, List.map_append, List.append_assoc]
  rfl
/-- The parts of a form that hold fields. -/
structure Flds (f : FormF) (i : Ins) : Prop where
  d : (0 ≤ i.d ∧ i.d ≤ 15) ∧ (f.d = 0 → i.d = 0)
  s : (0 ≤ i.s ∧ i.s ≤ 15) ∧ (f.s = 0 → i.s = 0)
  c : (0 ≤ i.cond ∧ i.cond ≤ 15) ∧ (f.cond = 0 → i.cond = 0)
theorem field_zero {p n : Int} (h : fieldR p n = true) (hp : p = 0) : n = 0 := by
  unfold fieldR at h
  simp only [Bool.or_eq_true, Bool.and_eq_true, Bool.not_eq_true', decide_eq_true_eq, decide_eq_false_iff_not] at h
  omega
theorem field_of {p n : Int} (h : 0 ≤ n ∧ n ≤ 15) (h0 : p = 0 → n = 0) : fieldR p n = true := by
  unfold fieldR
  simp only [Bool.or_eq_true, Bool.and_eq_true, Bool.not_eq_true', decide_eq_true_eq, decide_eq_false_iff_not]
  by_cases hp : p = 0
  · exact .inl ⟨hp, h0 hp⟩
  · exact .inr ⟨⟨hp, h.1⟩, h.2⟩
theorem fits_flds (h : fitsF f i = true) : Flds f i := by
  have hr := fits_range h
  unfold fitsF at h
  simp only [Bool.and_eq_true] at h
  exact ⟨⟨hr.1, field_zero h.1.1.1.2⟩, ⟨hr.2.1, field_zero h.1.1.2⟩, ⟨hr.2.2, field_zero h.1.2⟩⟩
theorem up_range (h : Flds f i) : 0 ≤ upF f i ∧ upF f i ≤ 15 := at_range h.d.1 h.s.1 1
theorem base_range (h2 : FormOk2 f) (h : Flds f i) : 0 ≤ baseF f i ∧ baseF f i ≤ 15 := by
  have a := at_range (f := f) h.d.1 h.s.1 2
  have hm := h2.mod
  have hs := h2.s
  have b : atF f i 3 = 0 ∨ atF f i 2 = 0 := by
    unfold atF
    by_cases h3 : f.d = 3
    · right
      rw [if_neg (by omega), if_neg (by omega)]
    · left
      rw [if_neg h3, if_neg (by omega)]
  have c := at_range (f := f) h.d.1 h.s.1 3
  unfold baseF
  omega
def rexV (f : FormF) (i : Ins) : Int := 64 + 8 * f.w + 4 * (upF f i / 8) + baseF f i / 8
theorem rexV_range (h1 : FormOk f) (h2 : FormOk2 f) (h : Flds f i) : 0 ≤ rexV f i ∧ rexV f i ≤ 255 ∧ rexV f i / 4 % 2 = upF f i / 8 ∧ rexV f i % 2 = baseF f i / 8 := by
  have a := up_range h
  have b := base_range h2 h
  have c := h1.w
  unfold rexV
  omega
theorem at_rex (hr : f.rex = true) (t : List UInt8) : byteAt (r1 f i ++ t) (gA f) = ((byteOf (rexV f i)).toNat : Int) := by
  unfold r1
  rw [if_pos hr, List.append_assoc]
  exact byteAt_mid (r0_len f)
theorem opY_last (f : FormF) (i : Ins) : opY f i (f.op.length - 1) = f.op.getD (f.op.length - 1) 0 + (if f.cond = 4 then i.cond else 0) + (if f.d = 3 then i.d % 8 else 0) ∨ f.op.length = 0 := by
  rcases Nat.eq_zero_or_pos f.op.length with h | h
  · exact .inr h
  · left
    have e : (decide (((f.op.length - 1 : Nat) : Int) = (f.op.length : Int) - 1)) = true := by rw [decide_eq_true_eq]; omega
    unfold opY opX
    rw [e]
    simp only [Bool.true_and, decide_eq_true_eq]
def lastV (f : FormF) (i : Ins) : Int := f.op.getD (f.op.length - 1) 0 + (if f.cond = 4 then i.cond else 0) + (if f.d = 3 then i.d % 8 else 0)
theorem lastV_range (h1 : FormOk f) (h2 : FormOk2 f) (h : Flds f i) : 0 ≤ lastV f i ∧ lastV f i ≤ 255 ∧ (f.cond = 4 → lastV f i % 16 = i.cond) ∧ (f.d = 3 → lastV f i % 8 = i.d % 8) := by
  have ho := h1.op (f.op.getD (f.op.length - 1) 0) (by have := h2.len; simp [show f.op.length - 1 < f.op.length by omega])
  have hc := h.c.1
  have hlo := h2.lo
  have hc4 := h2.c4
  have hd3 := h2.d3
  unfold lastV
  have hd := h.d.1
  by_cases e1 : f.cond = 4
  · obtain ⟨hc4, hnd⟩ := hc4 e1
    rw [if_pos e1, if_neg hnd] at hlo ⊢
    exact ⟨by omega, by omega, fun _ => by omega, fun q => absurd q hnd⟩
  · by_cases e2 : f.d = 3
    · have hd3 := hd3 e2
      rw [if_neg e1, if_pos e2] at hlo ⊢
      exact ⟨by omega, by omega, fun q => absurd q e1, fun _ => by omega⟩
    · rw [if_neg e1, if_neg e2] at hlo ⊢
      exact ⟨by omega, by omega, fun q => absurd q e1, fun q => absurd q e2⟩
theorem at_last (h2 : FormOk2 f) (t : List UInt8) : byteAt (r2 f i f.op.length ++ t) (gC f - 1) = ((byteOf (lastV f i)).toNat : Int) := by
  have hl := h2.len
  have e := (opY_last f i).resolve_right (by omega)
  rw [r2_last hl, List.append_assoc, e]
  refine byteAt_mid ?_
  rw [r2_len]
  unfold gC
  omega
def modV (f : FormF) (i : Ins) : Int := 64 * f.mod + 8 * regX f i + baseF f i % 8
theorem modV_range (h1 : FormOk f) (h2 : FormOk2 f) (h : Flds f i) (hm : 0 ≤ f.mod) : 0 ≤ modV f i ∧ modV f i ≤ 255 ∧ modV f i / 8 % 8 = regX f i ∧ modV f i % 8 = baseF f i % 8 := by
  have a := up_range h
  have c := h1.mod
  have d := h1.digit
  have hr : 0 ≤ regX f i ∧ regX f i ≤ 7 := by
    unfold regX
    split <;> omega
  unfold modV
  omega
theorem at_mod (hm : 0 ≤ f.mod) (t : List UInt8) : byteAt (r2 f i f.op.length ++ ((if 0 ≤ f.mod then modB f i else []) ++ t)) (gC f) = ((byteOf (modV f i)).toNat : Int) := by
  rw [if_pos hm]
  unfold modB
  rw [List.cons_append]
  exact byteAt_mid (r2_len f i _)
/-- What reading gives where the parts with fields are read. -/
structure Reads (f : FormF) (i : Ins) (bs : List UInt8) : Prop where
  x : f.rex = true → byteAt bs (gA f) = rexV f i
  l : byteAt bs (gC f - 1) = lastV f i
  m : 0 ≤ f.mod → byteAt bs (gC f) = modV f i
theorem gX_parts (h1 : FormOk f) (h2 : FormOk2 f) (h : Flds f i) {bs : List UInt8} (hx : f.rex = true → byteAt bs (gA f) = rexV f i) : gUp0 f bs = upF f i / 8 * 8 ∧ gBs0 f bs = baseF f i / 8 * 8 := by
  obtain ⟨_, _, r1, r2⟩ := rexV_range h1 h2 h
  unfold gUp0 gBs0 gX
  by_cases hr : f.rex = true
  · rw [if_pos hr, hx hr, r1, r2]
    exact ⟨rfl, rfl⟩
  · have hz := h2.rex.resolve_left hr
    have e1 : upF f i = 0 := by
      unfold upF atF
      rw [if_neg (by omega), if_neg (by omega)]
    have e2 : baseF f i = 0 := by
      unfold baseF atF
      rw [if_neg (by omega), if_neg (by omega), if_neg (by omega), if_neg (by omega)]
      rfl
    rw [if_neg hr, e1, e2]
    exact ⟨rfl, rfl⟩
theorem flds_read (h1 : FormOk f) (h2 : FormOk2 f) (h : Flds f i) {bs : List UInt8} (hr : Reads f i bs) : gDd f bs = i.d ∧ gSs f bs = i.s ∧ gCd f bs = i.cond ∧ gE f bs = gC f + (if 0 ≤ f.mod then (modB f i).length else 0) := by
  obtain ⟨u0, b0⟩ := gX_parts h1 h2 h hr.x
  obtain ⟨_, _, lc, ld⟩ := lastV_range h1 h2 h
  have hl : gL f bs = lastV f i := hr.l
  have hcond : gCd f bs = i.cond := by
    unfold gCd
    split
    · rename_i e
      rw [hl, lc e]
    · exact (h.c.2 (h2.cond.resolve_right (by assumption))).symm
  by_cases hm : 0 ≤ f.mod
  · have hmod : (f.mod = 2 ∨ f.mod = 3) ∧ ¬ f.d = 3 ∧ f.rex = true ∧ (f.d = 2 ∨ f.s = 2) := by
      rcases h2.mod with q | q
      · omega
      · exact q
    obtain ⟨hmm, hd3, hrex, h22⟩ := hmod
    obtain ⟨_, _, m1, m2⟩ := modV_range h1 h2 h hm
    have hM : gM f bs = modV f i := hr.m hm
    have hup : f.d = 1 ∨ f.s = 1 → gUp f bs = upF f i := by
      intro q
      have e : regX f i = upF f i % 8 := by
        unfold regX
        rw [if_neg]
        rw [Bool.and_eq_true, Bool.not_eq_true', Bool.not_eq_true', decide_eq_false_iff_not, decide_eq_false_iff_not]
        omega
      unfold gUp
      rw [u0, hM, m1, e]
      omega
    have hbs : gBs f bs = baseF f i := by
      unfold gBs
      rw [b0, hM, m2]
      omega
    have hu1 : f.d = 1 → upF f i = i.d := fun q => by unfold upF atF; rw [if_pos q]
    have hu2 : f.s = 1 → upF f i = i.s := fun q => by
      have := h2.ds
      unfold upF atF; rw [if_neg (by omega), if_pos q]
    have hb3 : atF f i 3 = 0 := by
      have := h2.s
      unfold atF; rw [if_neg hd3, if_neg (by omega)]
    have hb1 : f.d = 2 → baseF f i = i.d := fun q => by unfold baseF; rw [hb3]; unfold atF; rw [if_pos q]; omega
    have hb2 : f.s = 2 → baseF f i = i.s := fun q => by
      have := h2.ds
      unfold baseF; rw [hb3]; unfold atF; rw [if_neg (by omega), if_pos q]; omega
    refine ⟨?_, ?_, hcond, ?_⟩
    · unfold gDd gD2 gD1 gD0
      rw [if_pos hm]
      split
      · rename_i q; rw [hbs, hb1 q]
      split
      · rename_i _ q; rw [hup (.inl q), hu1 q]
      try rw [if_neg hd3]
      exact (h.d.2 (by have := h2.d; omega)).symm
    · unfold gSs gS2 gS1
      rw [if_pos hm]
      split
      · rename_i q; rw [hbs, hb2 q]
      split
      · rename_i _ q; rw [hup (.inr q), hu2 q]
      exact (h.s.2 (by have := h2.s; omega)).symm
    · unfold gE gE2 modB
      rw [if_pos hm, if_pos hm, hM, m2]
      split <;> rfl
  · have hmod : f.mod = -1 ∧ (f.d = 0 ∨ f.d = 3) ∧ f.s = 0 := by
      rcases h2.mod with q | q
      · exact q
      · omega
    refine ⟨?_, ?_, hcond, ?_⟩
    · unfold gDd gD0
      rw [if_neg hm]
      split
      · rename_i q
        have hb : baseF f i = i.d := by
          unfold baseF atF
          rw [if_neg (by omega), if_neg (by omega), if_pos q]
          omega
        have hd := h.d.1
        rw [b0, hl, ld q, hb]
        omega
      · exact (h.d.2 (by omega)).symm
    · unfold gSs
      rw [if_neg hm]
      exact (h.s.2 hmod.2.2).symm
    · unfold gE
      rw [if_neg hm, if_neg hm]
      rfl
theorem r3_len (f : FormF) (i : Ins) : (r3 f i).length = gC f + (if 0 ≤ f.mod then (modB f i).length else 0) := by
  unfold r3 gC
  rw [List.length_append, r2_len]
  split <;> rfl
/-- All parts with fields are read. -/
theorem reads_all (h1 : FormOk f) (h2 : FormOk2 f) (h : Flds f i) {bs t : List UInt8} (hb : bs = r3 f i ++ t) : Reads f i bs := by
  have e : bs = r2 f i f.op.length ++ ((if 0 ≤ f.mod then modB f i else []) ++ t) := by rw [hb]; unfold r3; rw [List.append_assoc]
  refine ⟨fun hr => ?_, ?_, fun hm => ?_⟩
  · have e1 : bs = r1 f i ++ ((List.range f.op.length).map (fun k => byteOf (opY f i k)) ++ ((if 0 ≤ f.mod then modB f i else []) ++ t)) := by rw [e]; unfold r2; rw [List.append_assoc]
    obtain ⟨a, b, _⟩ := rexV_range h1 h2 h
    rw [e1, at_rex hr, byteOf_val ⟨a, b⟩]
  · obtain ⟨a, b, _⟩ := lastV_range h1 h2 h
    rw [e, at_last h2, byteOf_val ⟨a, b⟩]
  · obtain ⟨a, b, _⟩ := modV_range h1 h2 h hm
    rw [e, at_mod hm, byteOf_val ⟨a, b⟩]
theorem r3_eq {j : Ins} (hd : j.d = i.d) (hs : j.s = i.s) (hc : j.cond = i.cond) : r3 f j = r3 f i := by
  unfold r3 r2 r1 modB opY opX regX upF baseF atF
  rw [hd, hs, hc]
theorem part_eq {pre l t : List UInt8} {a n : Nat} (ha : pre.length = a) (hn : l.length = n) : part (pre ++ (l ++ t)) a n = l := by
  apply List.ext_getElem?
  intro k
  unfold part
  rw [List.getElem?_map]
  rcases Nat.lt_or_ge k n with hk | hk
  · rw [List.getElem?_range hk, Option.map_some, List.getD_eq_getElem?_getD, List.getElem?_append_right (by omega), ha, Nat.add_sub_cancel_left, List.getElem?_append_left (by omega), List.getElem?_eq_getElem (by omega)]
    rfl
  · rw [List.getElem?_eq_none (by rw [List.length_range]; exact hk), List.getElem?_eq_none (by omega)]
    rfl
theorem fits_imm (h2 : FormOk2 f) (h : fitsF f i = true) (hI : I64 i.imm) : signF (leBytes (sizeR f.imm) (i.imm % 18446744073709551616)) = i.imm := by
  unfold fitsF at h
  simp only [Bool.and_eq_true] at h
  have hn := h.2
  unfold I64 at hI
  have hcore : sizeR f.imm = 1 ∨ sizeR f.imm = 4 ∨ sizeR f.imm = 8 → (-(256 ^ sizeR f.imm) ≤ 2 * i.imm ∧ 2 * i.imm < 256 ^ sizeR f.imm) → signF (leBytes (sizeR f.imm) (i.imm % 18446744073709551616)) = i.imm := by
    intro hk hb
    rw [leBytes_mod8 _ (by omega)]
    unfold signF
    rw [leBytes_length, leNum_bytes]
    exact sgn_mod hk hb
  rcases h2.imm with e | e | e | e
  · rw [numberR, if_pos e, decide_eq_true_eq] at hn
    rw [hn, e]
    rfl
  · rw [numberR, if_neg (by omega), if_pos e] at hn
    have hs : sizeR f.imm = 1 := by rw [e]; rfl
    refine hcore (.inl hs) ?_
    rw [hs]
    split at hn <;> unfold inF at hn <;> rw [Bool.and_eq_true, decide_eq_true_eq, decide_eq_true_eq] at hn <;> simp only [Int.reducePow] <;> omega
  · rw [numberR, if_neg (by omega), if_neg (by omega), if_pos e] at hn
    have hs : sizeR f.imm = 4 := by rw [e]; rfl
    refine hcore (.inr (.inl hs)) ?_
    rw [hs]
    unfold smallF inF at hn; rw [Bool.and_eq_true, decide_eq_true_eq, decide_eq_true_eq] at hn; simp only [Int.reducePow]; omega
  · have hs : sizeR f.imm = 8 := by rw [e]; rfl
    refine hcore (.inr (.inr hs)) ?_
    rw [hs]
    simp only [Int.reducePow]; omega
theorem fits_ks (h : fitsF f i = true) : f.kind = i.kind ∧ f.size = i.size := by
  unfold fitsF at h
  simp only [Bool.and_eq_true, decide_eq_true_eq] at h
  exact ⟨h.1.1.1.1.1, h.1.1.1.1.2⟩
/-- WHAT A FORM LAYS IS GUESSED AGAIN. -/
theorem guess_bytes (h1 : FormOk f) (h2 : FormOk2 f) (h : fitsF f i = true) (hI : I64 i.imm) (t : List UInt8) : guessF f (bytesF f i ++ t) = i := by
  have hF := fits_flds h
  have hb : bytesF f i ++ t = r3 f i ++ (leBytes (sizeR f.imm) (i.imm % 18446744073709551616) ++ t) := by unfold bytesF r4; rw [List.append_assoc]
  obtain ⟨a, b, c, d⟩ := flds_read h1 h2 hF (reads_all h1 h2 hF hb)
  obtain ⟨k1, k2⟩ := fits_ks h
  have hg : gI f (bytesF f i ++ t) = i.imm := by
    unfold gI
    rw [d, hb, part_eq (r3_len f i) (leBytes_length _ _)]
    exact fits_imm h2 h hI
  unfold guessF
  rw [a, b, c, k1, k2, hg]
end
end Go.Proofs.YtjndpakhmgapjaaDoor

namespace Go.Proofs.YtjndpakhmgapjaaDoor
open Go Go.RowKit
set_option linter.unusedSimpArgs false
set_option linter.unusedVariables false
set_option linter.unnecessarySimpa false
theorem byteAt_range' (bs : List UInt8) (k : Nat) : 0 ≤ byteAt bs k ∧ byteAt bs k ≤ 255 := u8_toNat _
section
variable {f : FormF} {i : Ins}
theorem guess_flds (h2 : FormOk2 f) (bs : List UInt8) : Flds f (guessF f bs) := by
  have hx : 0 ≤ gUp0 f bs ∧ gUp0 f bs ≤ 8 := by
    have : 0 ≤ gX f bs / 4 % 2 ∧ gX f bs / 4 % 2 ≤ 1 := by omega
    unfold gUp0; omega
  have hb : 0 ≤ gBs0 f bs ∧ gBs0 f bs ≤ 8 := by unfold gBs0; omega
  have hu : 0 ≤ gUp f bs ∧ gUp f bs ≤ 15 := by unfold gUp; omega
  have hB : 0 ≤ gBs f bs ∧ gBs f bs ≤ 15 := by unfold gBs; omega
  have h0 : (0 ≤ gD0 f bs ∧ gD0 f bs ≤ 15) ∧ (f.d = 0 → gD0 f bs = 0) := by
    unfold gD0
    split
    · exact ⟨by omega, fun q => by omega⟩
    · exact ⟨by omega, fun _ => rfl⟩
  refine ⟨?_, ?_, ?_⟩
  · show (0 ≤ gDd f bs ∧ gDd f bs ≤ 15) ∧ (f.d = 0 → gDd f bs = 0)
    unfold gDd gD2 gD1
    split
    · split
      · exact ⟨hB, fun q => by omega⟩
      split
      · exact ⟨hu, fun q => by omega⟩
      · exact h0
    · exact h0
  · show (0 ≤ gSs f bs ∧ gSs f bs ≤ 15) ∧ (f.s = 0 → gSs f bs = 0)
    unfold gSs gS2 gS1
    split
    · split
      · exact ⟨hB, fun q => by omega⟩
      split
      · exact ⟨hu, fun q => by omega⟩
      · exact ⟨by omega, fun _ => rfl⟩
    · exact ⟨by omega, fun _ => rfl⟩
  · show (0 ≤ gCd f bs ∧ gCd f bs ≤ 15) ∧ (f.cond = 0 → gCd f bs = 0)
    unfold gCd
    split
    · exact ⟨by omega, fun q => by omega⟩
    · exact ⟨by omega, fun _ => rfl⟩
/-- The high bits come back. -/
theorem high_same (h1 : FormOk f) (h2 : FormOk2 f) (h : Flds f i) {bs : List UInt8} (hx : f.rex = true → byteAt bs (gA f) = rexV f i) : upF f (guessF f bs) / 8 = upF f i / 8 ∧ baseF f (guessF f bs) / 8 = baseF f i / 8 := by
  obtain ⟨u0, b0⟩ := gX_parts h1 h2 h hx
  have hur := up_range h
  have hbr := base_range h2 h
  have hd := h2.d
  have hs := h2.s
  have hds := h2.ds
  have eU : gUp f bs / 8 = upF f i / 8 := by unfold gUp; rw [u0]; omega
  have eB : gBs f bs / 8 = baseF f i / 8 := by unfold gBs; rw [b0]; omega
  have eL : (gBs0 f bs + gL f bs % 8) / 8 = baseF f i / 8 := by rw [b0]; omega
  by_cases hm : 0 ≤ f.mod
  · have hmod : (f.mod = 2 ∨ f.mod = 3) ∧ ¬ f.d = 3 ∧ f.rex = true ∧ (f.d = 2 ∨ f.s = 2) := by
      rcases h2.mod with q | q
      · omega
      · exact q
    obtain ⟨hmm, hd3, hrex, h22⟩ := hmod
    have ed : (guessF f bs).d = gD2 f bs := by show gDd f bs = _; unfold gDd; rw [if_pos hm]
    have es : (guessF f bs).s = gS2 f bs := by show gSs f bs = _; unfold gSs; rw [if_pos hm]
    constructor
    · unfold upF atF
      by_cases q : f.d = 1
      · have hu1 : upF f i = i.d := by unfold upF atF; rw [if_pos q]
        rw [if_pos q, if_pos q, ed, gD2, if_neg (by omega), gD1, if_pos q, eU, hu1]
      · rw [if_neg q, if_neg q]
        by_cases q2 : f.s = 1
        · have hu2 : upF f i = i.s := by unfold upF atF; rw [if_neg q, if_pos q2]
          rw [if_pos q2, if_pos q2, es, gS2, if_neg (by omega), gS1, if_pos q2, eU, hu2]
        · rw [if_neg q2, if_neg q2]
    · have hb3 : ∀ j : Ins, atF f j 3 = 0 := fun j => by unfold atF; rw [if_neg hd3, if_neg (by omega)]
      unfold baseF at eB ⊢
      rw [hb3, hb3] at *
      rw [Int.add_zero] at eB
      rw [Int.add_zero, Int.add_zero]
      unfold atF at eB ⊢
      by_cases q : f.d = 2
      · rw [if_pos q] at eB
        rw [if_pos q, if_pos q, ed, gD2, if_pos q, eB]
      · have q2 : f.s = 2 := h22.resolve_left q
        rw [if_neg q, if_pos q2] at eB
        rw [if_neg q, if_neg q, if_pos q2, if_pos q2, es, gS2, if_pos q2, eB]
  · have hmod : f.mod = -1 ∧ (f.d = 0 ∨ f.d = 3) ∧ f.s = 0 := by
      rcases h2.mod with q | q
      · exact q
      · omega
    have ed : (guessF f bs).d = gD0 f bs := by show gDd f bs = _; unfold gDd; rw [if_neg hm]
    constructor
    · unfold upF atF
      rw [if_neg (by omega), if_neg (by omega), if_neg (by omega), if_neg (by omega)]
    · have hbase : ∀ j : Ins, baseF f j = (if f.d = 3 then j.d else 0) := fun j => by
        unfold baseF atF
        rw [if_neg (show ¬ f.d = 2 by omega), if_neg (show ¬ f.s = 2 by omega), Int.zero_add, if_neg (show ¬ f.s = 3 by omega)]
      rw [hbase] at eL ⊢
      rw [hbase]
      by_cases q : f.d = 3
      · rw [if_pos q] at eL ⊢
        rw [if_pos q, ed, gD0, if_pos q]
        exact eL
      · rw [if_neg q, if_neg q]
theorem r1_same (h1 : FormOk f) (h2 : FormOk2 f) (h : Flds f i) {bs : List UInt8} (hx : f.rex = true → byteAt bs (gA f) = rexV f i) : r1 f (guessF f bs) = r1 f i := by
  obtain ⟨a, b⟩ := high_same h1 h2 h hx
  unfold r1
  rw [a, b]
theorem opY_low (f : FormF) (i : Ins) {k : Nat} (hk : k + 1 < f.op.length) : opY f i k = f.op.getD k 0 := by
  have e : decide ((k : Int) = (f.op.length : Int) - 1) = false := by rw [decide_eq_false_iff_not]; omega
  unfold opY opX
  rw [e]
  simp
theorem ops_low (f : FormF) (i j : Ins) {n : Nat} (hn : n + 1 ≤ f.op.length) : (List.range n).map (fun k => byteOf (opY f i k)) = (List.range n).map (fun k => byteOf (opY f j k)) := by
  apply List.map_congr_left
  intro k hk
  rw [List.mem_range] at hk
  rw [opY_low f i (by omega), opY_low f j (by omega)]
theorem last_same (h1 : FormOk f) (h2 : FormOk2 f) (h : Flds f i) {bs : List UInt8} (hl : byteAt bs (gC f - 1) = lastV f i) : lastV f (guessF f bs) = lastV f i := by
  obtain ⟨_, _, lc, ld⟩ := lastV_range h1 h2 h
  have hL : gL f bs = lastV f i := hl
  have hb8 : gBs0 f bs % 8 = 0 := by unfold gBs0; omega
  have ec : (if f.cond = 4 then (guessF f bs).cond else 0) = (if f.cond = 4 then i.cond else 0) := by
    split
    · rename_i q
      show gCd f bs = i.cond
      unfold gCd
      rw [if_pos q, hL, lc q]
    · rfl
  have ed : (if f.d = 3 then (guessF f bs).d % 8 else 0) = (if f.d = 3 then i.d % 8 else 0) := by
    split
    · rename_i q
      have hmod : ¬ 0 ≤ f.mod := by
        rcases h2.mod with q2 | q2
        · omega
        · exact fun _ => q2.2.1 q
      have e1 : (guessF f bs).d = gBs0 f bs + gL f bs % 8 := by show gDd f bs = _; unfold gDd gD0; rw [if_neg hmod, if_pos q]
      have := ld q
      rw [e1, hL]
      omega
    · rfl
  unfold lastV
  rw [ec, ed]
theorem r2_same (h1 : FormOk f) (h2 : FormOk2 f) (h : Flds f i) {bs : List UInt8} (hx : f.rex = true → byteAt bs (gA f) = rexV f i) (hl : byteAt bs (gC f - 1) = lastV f i) : r2 f (guessF f bs) f.op.length = r2 f i f.op.length := by
  have hlen := h2.len
  rw [r2_last hlen, r2_last hlen, (opY_last f (guessF f bs)).resolve_right (by omega), (opY_last f i).resolve_right (by omega)]
  show r2 f (guessF f bs) (f.op.length - 1) ++ [byteOf (lastV f (guessF f bs))] = r2 f i (f.op.length - 1) ++ [byteOf (lastV f i)]
  rw [last_same h1 h2 h hl]
  unfold r2
  rw [r1_same h1 h2 h hx, ops_low f (guessF f bs) i (by omega)]
/-- Beginnings. -/
def Bg (b w : List UInt8) : Prop := ∃ t, b ++ t = w
theorem Bg.len {b w : List UInt8} (h : Bg b w) : b.length ≤ w.length := by
  obtain ⟨t, rfl⟩ := h
  simp
theorem Bg.both {b c w : List UInt8} (h1 : Bg b w) (h2 : Bg c w) (hl : b.length ≤ c.length) : Bg b c := by
  obtain ⟨t, rfl⟩ := h1
  obtain ⟨u, e⟩ := h2
  refine ⟨c.drop b.length, ?_⟩
  have h3 := congrArg (List.take b.length) e
  rw [List.take_left, List.take_append_of_le_length hl] at h3
  have e2 := List.take_append_drop b.length c
  rwa [h3] at e2
theorem Bg.trans {b c w : List UInt8} (h1 : Bg b c) (h2 : Bg c w) : Bg b w := by
  obtain ⟨t, rfl⟩ := h1
  obtain ⟨u, rfl⟩ := h2
  exact ⟨t ++ u, by rw [List.append_assoc]⟩
theorem Bg.beg {b w : List UInt8} (h : Bg b w) : begF w b = true := by
  obtain ⟨t, rfl⟩ := h
  rw [begF, List.take_left, decide_eq_true_eq]
theorem beg_Bg {b w : List UInt8} (h : begF w b = true) : Bg b w := by
  rw [begF, decide_eq_true_eq] at h
  refine ⟨w.drop b.length, ?_⟩
  have e := List.take_append_drop b.length w
  rwa [h] at e
theorem at_beg {b w z : List UInt8} (h : Bg b w) {k : Nat} (hk : k < b.length) : byteAt (b ++ z) k = byteAt w k := by
  obtain ⟨t, rfl⟩ := h
  rw [byteAt_app hk, byteAt_app hk]
theorem part_pad {pre l b z : List UInt8} {n : Nat} (hb : Bg b (pre ++ l)) (hp : pre.length ≤ b.length) (hn : n = l.length) : ∃ u, u.length = n ∧ part (b ++ z) pre.length n = u ∧ Bg (b.drop pre.length) u := by
  obtain ⟨t, e⟩ := hb
  have hlb : b.length + t.length = pre.length + n := by have := congrArg List.length e; rw [List.length_append, List.length_append] at this; omega
  refine ⟨_, part_len _ _ _, rfl, (part (b ++ z) pre.length n).drop (b.length - pre.length), ?_⟩
  conv => rhs; rw [← List.take_append_drop (b.length - pre.length) (part (b ++ z) pre.length n)]
  congr 1
  apply List.ext_getElem?
  intro k
  rw [List.getElem?_drop, List.getElem?_take]
  unfold part
  rw [List.getElem?_map]
  split
  · rename_i hk
    rw [List.getElem?_range (by omega), Option.map_some, List.getD_eq_getElem?_getD, List.getElem?_append_left (by omega), List.getElem?_eq_getElem (by omega)]
    rfl
  · rw [List.getElem?_eq_none (by omega)]
theorem imm_zero {bs : List UInt8} {a n : Nat} (h : bs.length ≤ a) : part bs a n = List.replicate n 0 := by
  apply List.ext_getElem?
  intro k
  unfold part
  rw [List.getElem?_map, List.getElem?_replicate]
  split
  · rename_i hk
    rw [List.getElem?_range hk, Option.map_some, List.getD_eq_getElem?_getD, List.getElem?_eq_none (by omega)]
    rfl
  · rename_i hk
    rw [List.getElem?_eq_none (by rw [List.length_range]; omega)]
    rfl
theorem bytes_len (f : FormF) (i : Ins) : (bytesF f i).length = gC f + (if 0 ≤ f.mod then (modB f i).length else 0) + sizeR f.imm := by
  unfold bytesF r4
  rw [List.length_append, r3_len, leBytes_length]
theorem modB_len (f : FormF) (i : Ins) : 1 ≤ (modB f i).length ∧ (modB f i).length ≤ 2 := by
  unfold modB
  split <;> simp
/-- WHATEVER STANDS BEHIND what is read: the guess begins with what is read, and goes on. -/
theorem guess_on (h1 : FormOk f) (h2 : FormOk2 f) (h : Flds f i) {b : List UInt8} (hb : Bg b (bytesF f i)) (hlt : b.length < (bytesF f i).length) (z : List UInt8) : Bg b (bytesF f (guessF f (b ++ z))) ∧ b.length < (bytesF f (guessF f (b ++ z))).length := by
  have hlen := h2.len
  have hCB : gC f = gB f + f.op.length := rfl
  have hBA : gB f = if f.rex = true then gA f + 1 else gA f := rfl
  have hll := bytes_len f i
  have hlg := bytes_len f (guessF f (b ++ z))
  obtain ⟨x0, hx0⟩ := bytes_r1 f i
  have hrx : f.rex = true → gA f < b.length → byteAt (b ++ z) (gA f) = rexV f i := by
    intro hr hk
    obtain ⟨a, c, _⟩ := rexV_range h1 h2 h
    rw [at_beg hb hk, hx0, at_rex hr, byteOf_val ⟨a, c⟩]
  have hR2 : Bg (r2 f i f.op.length) (bytesF f i) := ⟨_, (bytes_r2 f i).symm⟩
  have hG2 : ∀ j, Bg (r2 f j f.op.length) (bytesF f j) := fun j => ⟨_, (bytes_r2 f j).symm⟩
  rcases Nat.lt_or_ge (gA f) b.length with hA | hA
  · -- the REX byte is read
    have hrx2 : f.rex = true → byteAt (b ++ z) (gA f) = rexV f i := fun hr => hrx hr hA
    rcases Nat.lt_or_ge b.length (gC f) with hC | hC
    · refine ⟨?_, by omega⟩
      have e : r2 f (guessF f (b ++ z)) (f.op.length - 1) = r2 f i (f.op.length - 1) := by
        unfold r2
        rw [r1_same h1 h2 h hrx2, ops_low f (guessF f (b ++ z)) i (by omega)]
      have hs : ∀ j, Bg (r2 f j (f.op.length - 1)) (bytesF f j) := fun j => Bg.trans ⟨[byteOf (opY f j (f.op.length - 1))], (r2_last hlen).symm⟩ (hG2 j)
      have hb2 : Bg b (r2 f i (f.op.length - 1)) := hb.both (hs i) (by rw [r2_len]; omega)
      rw [← e] at hb2
      exact hb2.trans (hs _)
    · have hl : byteAt (b ++ z) (gC f - 1) = lastV f i := by
        obtain ⟨a, c, _⟩ := lastV_range h1 h2 h
        rw [at_beg hb (by omega), bytes_r2, at_last h2, byteOf_val ⟨a, c⟩]
      have e2 := r2_same h1 h2 h hrx2 hl
      rcases Nat.lt_or_ge (gC f) b.length with hM | hM
      · -- ModRM too, or an immediate
        have hR : Reads f i (b ++ z) := by
          refine ⟨hrx2, hl, fun hm => ?_⟩
          obtain ⟨a, c, _⟩ := modV_range h1 h2 h hm
          rw [at_beg hb hM, bytes_r2, at_mod hm, byteOf_val ⟨a, c⟩]
        obtain ⟨e3, e4, e5, e6⟩ := flds_read h1 h2 h hR
        have e7 : r3 f (guessF f (b ++ z)) = r3 f i := r3_eq e3 e4 e5
        have hmb : (if 0 ≤ f.mod then (modB f (guessF f (b ++ z))).length else 0) = (if 0 ≤ f.mod then (modB f i).length else 0) := by
          have := congrArg List.length e7
          rw [r3_len, r3_len] at this
          omega
        refine ⟨?_, by rw [hlg, hmb, ← hll]; exact hlt⟩
        have hs : ∀ j, Bg (r3 f j) (bytesF f j) := fun j => ⟨_, rfl⟩
        rcases Nat.lt_or_ge b.length (r3 f i).length with h3 | h3
        · have hb2 := hb.both (hs i) (by omega)
          rw [← e7] at hb2
          exact hb2.trans (hs _)
        · have hsz := sizeR_le f.imm
          obtain ⟨u, hu1, hu2, hu3⟩ := part_pad (z := z) (show Bg b (r3 f i ++ leBytes (sizeR f.imm) (i.imm % 18446744073709551616)) from hb) h3 (leBytes_length _ _).symm
          have hI : (guessF f (b ++ z)).imm = signF u := by
            show gI f (b ++ z) = _
            unfold gI
            rw [e6, ← r3_len, hu2]
          have hle : leBytes (sizeR f.imm) (signF u % 18446744073709551616) = u := by
            have := sign_le u (by omega)
            rwa [hu1] at this
          have hbb : bytesF f (guessF f (b ++ z)) = r3 f i ++ u := by
            unfold bytesF r4
            rw [e7, hI, hle]
          obtain ⟨t, ht⟩ := hu3
          rw [hbb]
          refine ⟨t, ?_⟩
          have h5 : b = r3 f i ++ b.drop (r3 f i).length := by
            have h6 := (hs i).both hb h3
            obtain ⟨v, hv⟩ := h6
            rw [← hv, List.drop_left]
          conv => lhs; rw [h5]
          rw [List.append_assoc, ht]
      · have hbl : b.length = gC f := by omega
        have hb2 : Bg b (r2 f i f.op.length) := hb.both hR2 (by rw [r2_len]; omega)
        rw [← e2] at hb2
        refine ⟨hb2.trans (hG2 _), ?_⟩
        rw [hlg]
        by_cases hm : 0 ≤ f.mod
        · have := modB_len f (guessF f (b ++ z))
          rw [if_pos hm]
          omega
        · rw [if_neg hm] at hll ⊢
          omega
  · refine ⟨?_, by
      have : gA f ≤ gB f := by rw [hBA]; split <;> omega
      omega⟩
    obtain ⟨t, ht⟩ := bytes_r0 f i
    obtain ⟨t2, ht2⟩ := bytes_r0 f (guessF f (b ++ z))
    exact (hb.both ⟨t, ht.symm⟩ (by rw [r0_len]; omega)).trans ⟨t2, ht2.symm⟩
theorem fits_mk (h2 : FormOk2 f) {j : Ins} (hk : f.kind = j.kind) (hz : f.size = j.size) (h : Flds f j) (hn : numberR f j.imm = true) : fitsF f j = true := by
  unfold fitsF
  rw [decide_eq_true hk, decide_eq_true hz, field_of h.d.1 h.d.2, field_of h.s.1 h.s.2, field_of h.c.1 h.c.2, hn]
  rfl
theorem sized4_small {u : List UInt8} (h : u.length = 4) : smallF (signF u) = true := by
  have := sign_range u (by omega)
  rw [h] at this
  simp only [Int.reducePow, Int.reduceNeg] at this
  unfold smallF inF
  rw [Bool.and_eq_true, decide_eq_true_eq, decide_eq_true_eq]
  omega
theorem gE_le (f : FormF) (bs : List UInt8) : gC f ≤ gE f bs ∧ (0 ≤ f.mod → gC f + 1 ≤ gE f bs) ∧ (¬ 0 ≤ f.mod → gE f bs = gC f) := by
  unfold gE gE2
  split
  · split
    · exact ⟨by omega, fun _ => by omega, fun q => by omega⟩
    · exact ⟨by omega, fun _ => by omega, fun q => by omega⟩
  · exact ⟨by omega, fun q => by omega, fun _ => rfl⟩
/-- A proper beginning of what a form lays is cut, for the document. -/
theorem cut_form (hf : f ∈ formsF) (h : fitsF f i = true) {b : List UInt8} (hb : Bg b (bytesF f i)) (hlt : b.length < (bytesF f i).length) : cutF f b = true := by
  have h1 := forms_ok f hf
  have h2 := forms_ok2 f hf
  have hF := fits_flds h
  have go : ∀ z, numberR f (guessF f (b ++ z)).imm = true → fitsF f (guessF f (b ++ z)) = true ∧ begF (bytesF f (guessF f (b ++ z))) b = true ∧ b.length < (bytesF f (guessF f (b ++ z))).length := by
    intro z hn
    obtain ⟨g1, g2⟩ := guess_on h1 h2 hF hb hlt z
    exact ⟨fits_mk h2 rfl rfl (guess_flds h2 _) hn, g1.beg, g2⟩
  have hz : ∀ bs, guessF f bs = guessF f (bs ++ []) := fun bs => by rw [List.append_nil]
  unfold cutF cutI
  by_cases hc : (decide (f.imm = 7) && smallF (guessF f b).imm) = true
  · rw [if_pos hc]
    rw [Bool.and_eq_true, decide_eq_true_eq] at hc
    obtain ⟨h7, hs⟩ := hc
    have hform : f.mod = -1 ∧ gC f = 2 := by
      have : formsF.all (fun f => !decide (f.imm = 7) || (decide (f.mod = -1) && decide (gC f = 2))) = true := by decide +kernel
      have := List.all_eq_true.1 this f hf
      simpa [h7] using this
    obtain ⟨hm, hC⟩ := hform
    have hlen10 : (bytesF f i).length = 10 := by
      rw [bytes_len, if_neg (by omega), hC, h7]
      rfl
    have hn : numberR f (guessF f (pad b)).imm = true := by
      unfold numberR
      rw [if_neg (by omega), if_neg (by omega), if_neg (by omega)]
      have hI : (guessF f (pad b)).imm = signF (part (pad b) 2 8) := by
        show gI f (pad b) = _
        unfold gI
        rw [(gE_le f (pad b)).2.2 (by omega), hC, h7]
        rfl
      have hl9 : (pad b).getD 9 0 = 1 := by
        unfold pad
        rw [List.getD_eq_getElem?_getD, List.getElem?_append_right (by omega), List.getElem?_replicate, if_pos (by omega)]
        rfl
      obtain ⟨v, hv, hvl⟩ : ∃ v : List UInt8, part (pad b) 2 8 = v ++ [1] ∧ v.length = 7 := by
        refine ⟨part (pad b) 2 7, ?_, part_len _ _ _⟩
        unfold part
        rw [show (8 : Nat) = 7 + 1 from rfl, List.range_succ, List.map_append]
        show _ ++ [(pad b).getD (2 + 7) 0] = _
        rw [hl9]
      have hbig : smallF (signF (v ++ [1])) = false := by
        have hr := leNum_range v
        have e : ∀ v : List UInt8, leNum (v ++ [1]) = leNum v + 256 ^ v.length := by
          intro v
          induction v with
          | nil => rfl
          | cons c r ih =>
            rw [List.cons_append, leNum, ih, leNum, List.length_cons, Int.pow_succ]
            omega
        rw [hvl] at hr
        simp only [Int.reducePow] at hr
        have hne : smallF (signF (v ++ [1])) ≠ true := by
          intro hh
          unfold smallF inF at hh
          rw [Bool.and_eq_true, decide_eq_true_eq, decide_eq_true_eq] at hh
          unfold signF sgn at hh
          rw [e, List.length_append, hvl] at hh
          simp only [List.length_cons, List.length_nil, Nat.reduceAdd, Int.reducePow] at hh
          split at hh <;> omega
        simpa using hne
      rw [hI, hv, hbig]
      rfl
    obtain ⟨g1, g2, g3⟩ := go _ hn
    rw [show guessF f (pad b) = guessF f (b ++ List.replicate (10 - b.length) 1) from rfl, g1, g2, decide_eq_true g3]
    rfl
  · rw [if_neg hc]
    have hn : numberR f (guessF f b).imm = true := by
      have hzero : sizeR f.imm = 0 ∨ sizeR f.imm = 1 → (guessF f b).imm = 0 := by
        intro hsz
        show gI f b = 0
        unfold gI
        have hle := gE_le f b
        have hpart : part b (gE f b) (sizeR f.imm) = List.replicate (sizeR f.imm) 0 := by
          rcases hsz with e | e
          · rw [e]; rfl
          · refine imm_zero ?_
            have hll := bytes_len f i
            rw [e] at hll
            by_cases hm : 0 ≤ f.mod
            · rw [if_pos hm] at hll
              have hmb := modB_len f i
              rcases Nat.lt_or_ge (gC f) b.length with hC | hC
              · have hge : ∀ bs : List UInt8, gA f < gC f := fun _ => by
                  have := h2.len
                  unfold gC gB
                  split <;> omega
                have hgA := hge ([] : List UInt8)
                have hR : Reads f i (b ++ []) := by
                  refine ⟨fun hr => ?_, ?_, fun hm => ?_⟩
                  · obtain ⟨x0, hx0⟩ := bytes_r1 f i
                    obtain ⟨a, c, _⟩ := rexV_range h1 h2 hF
                    rw [at_beg hb (by omega), hx0, at_rex hr, byteOf_val ⟨a, c⟩]
                  · obtain ⟨a, c, _⟩ := lastV_range h1 h2 hF
                    rw [at_beg hb (by omega), bytes_r2, at_last h2, byteOf_val ⟨a, c⟩]
                  · obtain ⟨a, c, _⟩ := modV_range h1 h2 hF hm
                    rw [at_beg hb hC, bytes_r2, at_mod hm, byteOf_val ⟨a, c⟩]
                obtain ⟨_, _, _, e6⟩ := flds_read h1 h2 hF hR
                rw [List.append_nil, if_pos hm] at e6
                omega
              · have := hle.1
                omega
            · rw [if_neg hm] at hll
              have := hle.1
              omega
        rw [hpart, sign_zero]
      rcases h2.imm with e | e | e | e
      · rw [hzero (.inl (by rw [e]; rfl)), numberR, if_pos e]
        rfl
      · rw [hzero (.inr (by rw [e]; rfl)), numberR, if_neg (by omega), if_pos e]
        split <;> rfl
      · rw [numberR, if_neg (by omega), if_neg (by omega), if_pos e]
        show smallF (gI f b) = true
        unfold gI
        exact sized4_small (by rw [part_len, e]; rfl)
      · rw [numberR, if_neg (by omega), if_neg (by omega), if_neg (by omega)]
        rw [e, decide_eq_true rfl, Bool.true_and] at hc
        simpa using hc
    have := go [] (by rw [List.append_nil]; exact hn)
    rw [List.append_nil] at this
    obtain ⟨g1, g2, g3⟩ := this
    rw [g1, g2, decide_eq_true g3]
    rfl
end
/-! ### both readers -/
theorem guess_i64 (f : FormF) (bs : List UInt8) : I64 (guessF f bs).imm := by
  show I64 (gI f bs)
  unfold gI
  exact sign_i64 _ (by rw [part_len]; exact sizeR_le _)
theorem hit_dec {f : FormF} (hf : f ∈ formsF) {bs : List UInt8} (h : hitF bs f = true) : guessF f bs = decI bs ∧ (bytesF f (guessF f bs)).length = decN bs ∧ decE bs = 0 := by
  unfold hitF at h
  rw [Bool.and_eq_true] at h
  obtain ⟨hv, he⟩ := forms_enc hf h.1
  obtain ⟨t, ht⟩ := beg_Bg h.2
  rw [← he] at ht
  obtain ⟨a, b, c⟩ := dec_enc hv (guess_i64 f bs) t
  rw [ht] at a b c
  exact ⟨a.symm, by rw [b, he], c⟩
theorem dec_hit {bs : List UInt8} (h : decE bs = 0) : ∃ f ∈ formsF, hitF bs f = true := by
  obtain ⟨hv, hi, he, hn, hle⟩ := reads h
  obtain ⟨f, _, hf, hfit⟩ := refF_some hv
  have hb := (forms_enc hf hfit).2
  have hbs : bs = bytesF f (decI bs) ++ bs.drop (decN bs) := by
    rw [← hb, he]
    exact (List.take_append_drop _ _).symm
  have hg : guessF f bs = decI bs := by
    have := guess_bytes (forms_ok f hf) (forms_ok2 f hf) hfit hi (bs.drop (decN bs))
    rwa [← hbs] at this
  refine ⟨f, hf, ?_⟩
  unfold hitF
  rw [hg, hfit, Bool.true_and]
  exact Bg.beg ⟨_, hbs.symm⟩
theorem cut_dec {f : FormF} (hf : f ∈ formsF) {bs : List UInt8} (h : cutF f bs = true) : decE bs = 202 := by
  unfold cutF at h
  rw [Bool.and_eq_true, Bool.and_eq_true, decide_eq_true_eq] at h
  obtain ⟨h1, h2, h3⟩ := h
  obtain ⟨hv, he⟩ := forms_enc hf h1
  obtain ⟨t, ht⟩ := beg_Bg h2
  have hI : I64 (cutI f bs).imm := by
    unfold cutI
    split <;> exact guess_i64 _ _
  have hb : bs = (encF (cutI f bs)).take bs.length := by rw [he, ← ht, List.take_left]
  rw [hb]
  exact dec_cut hv hI (by rw [he]; exact h3)
theorem dec_cutF {bs : List UInt8} (h : decE bs = 202) : ∃ f ∈ formsF, cutF f bs = true := by
  obtain ⟨i, hv, hi, t, ht0, ht⟩ := cut_ext h
  obtain ⟨f, _, hf, hfit⟩ := refF_some hv
  have hb := (forms_enc hf hfit).2
  rw [hb] at ht
  refine ⟨f, hf, cut_form hf hfit ⟨t, ht⟩ ?_⟩
  have := congrArg List.length ht
  rw [List.length_append] at this
  have h0 := List.length_pos_iff.2 ht0
  omega
/-- The document's answer, form by form. -/
theorem ref_hit {bs : List UInt8} {j : Nat} (hj : j < formsF.length) (h : hitF bs (formsF.getD j default) = true) : guessF (formsF.getD j default) bs = decI bs ∧ (bytesF (formsF.getD j default) (guessF (formsF.getD j default) bs)).length = decN bs ∧ decE bs = 0 :=
  hit_dec (by rw [getD_eq' hj]; exact List.getElem_mem hj) h
theorem ref_end {bs : List UInt8} (hp : ∀ k, k < formsF.length → hitF bs (formsF.getD k default) = false) : decI bs = nilI ∧ decN bs = 0 ∧ decE bs = (if (formsF.any fun f => cutF f bs) = true then 202 else 201) := by
  have h0 : ¬ decE bs = 0 := by
    intro h
    obtain ⟨f, hf, hh⟩ := dec_hit h
    obtain ⟨k, hk, rfl⟩ := List.mem_iff_getElem.1 hf
    have := hp k hk
    rw [getD_eq' hk, hh] at this
    cases this
  obtain ⟨a, b, c⟩ := reads_no h0
  refine ⟨a, b, ?_⟩
  split
  · rename_i hc
    obtain ⟨f, hf, hh⟩ := List.any_eq_true.1 hc
    exact cut_dec hf hh
  · rename_i hc
    refine c.resolve_right fun h => hc ?_
    obtain ⟨f, hf, hh⟩ := dec_cutF h
    exact List.any_eq_true.2 ⟨f, hf, hh⟩
end Go.Proofs.YtjndpakhmgapjaaDoor

namespace Go.Proofs.YtjndpakhmgapjaaDoor
open Go Go.RowKit
set_option linter.unusedSimpArgs false
set_option linter.unusedVariables false
set_option linter.unnecessarySimpa false
theorem sign_cons {x : UInt8} {r : List UInt8} (hr : r ≠ []) : signF (x :: r) = 256 * signF r + (x.toNat : Int) := by
  have hb := u8_toNat x
  have h := leNum_range r
  obtain ⟨k, hk⟩ : ∃ k, r.length = k + 1 := ⟨r.length - 1, by have := List.length_pos_iff.2 hr; omega⟩
  have hp : (0 : Int) < 256 ^ k := Int.pow_pos (by decide)
  have e1 : (256 : Int) ^ (k + 1) = 256 ^ k * 256 := Int.pow_succ ..
  have e2 : (256 : Int) ^ (k + 1 + 1) = 256 ^ (k + 1) * 256 := Int.pow_succ ..
  unfold signF sgn
  rw [List.length_cons, hk, e2, leNum]
  rw [hk] at h
  rw [e1] at h ⊢
  by_cases q : 2 * leNum r < 256 ^ k * 256
  · rw [if_pos q, if_pos (by omega)]
    omega
  · rw [if_neg q, if_neg (by omega)]
    omega
theorem sign_one (x : UInt8) : signF [x] = if 127 < (x.toNat : Int) then (x.toNat : Int) - 256 else (x.toNat : Int) := by
  have e : leNum [x] = (x.toNat : Int) := by show (x.toNat : Int) + 256 * 0 = _; omega
  have h1 : (256 : Int) ^ ([x] : List UInt8).length = 256 := by show (256 : Int) ^ 1 = 256; decide
  unfold signF sgn
  rw [h1, e]
  by_cases q : 127 < (x.toNat : Int)
  · rw [if_pos q, if_neg (by omega)]
  · rw [if_neg q, if_pos (by omega)]
/-- The next byte below, as the code takes it. -/
def sx (l : List UInt8) (j : Nat) : Int := if (decide ((j : Int) - 1 = (l.length : Int) - 1) && decide (127 < ((l.getD (j - 1) 0).toNat : Int))) = true then ((l.getD (j - 1) 0).toNat : Int) - 256 else ((l.getD (j - 1) 0).toNat : Int)
theorem sign_step {l : List UInt8} {j : Nat} (h1 : 1 ≤ j) (h2 : j ≤ l.length) : signF (l.drop (j - 1)) = 256 * signF (l.drop j) + sx l j := by
  have e : l.drop (j - 1) = l.getD (j - 1) 0 :: l.drop j := by
    rw [List.drop_eq_getElem_cons (by omega), show j - 1 + 1 = j by omega, List.getD_eq_getElem?_getD, List.getElem?_eq_getElem (by omega)]
    rfl
  rw [e]
  unfold sx
  by_cases q : j = l.length
  · have hd : l.drop j = [] := List.drop_eq_nil_of_le (by omega)
    rw [hd, sign_one, decide_eq_true (show (j : Int) - 1 = (l.length : Int) - 1 by omega), Bool.true_and]
    have h0 : signF [] = 0 := rfl
    rw [h0]
    simp only [decide_eq_true_eq]
    split <;> omega
  · have hd : l.drop j ≠ [] := by
      intro hh
      have := congrArg List.length hh
      rw [List.length_drop, List.length_nil] at this
      omega
    rw [sign_cons hd, decide_eq_false (show ¬ (j : Int) - 1 = (l.length : Int) - 1 by omega), Bool.false_and, if_neg (by decide)]
theorem sign7 {u : List UInt8} (h : u.length ≤ 7) : -36028797018963968 ≤ signF u ∧ signF u ≤ 36028797018963967 := by
  have hr := sign_range u (by omega)
  have hp : (256 : Int) ^ u.length ≤ 72057594037927936 := by
    have : u.length = 0 ∨ u.length = 1 ∨ u.length = 2 ∨ u.length = 3 ∨ u.length = 4 ∨ u.length = 5 ∨ u.length = 6 ∨ u.length = 7 := by omega
    rcases this with e | e | e | e | e | e | e | e <;> rw [e] <;> decide
  omega
theorem sx_range (l : List UInt8) (j : Nat) : -128 ≤ sx l j ∧ sx l j ≤ 255 := by
  have hb := u8_toNat (l.getD (j - 1) 0)
  unfold sx
  split
  · rename_i q
    rw [Bool.and_eq_true, decide_eq_true_eq, decide_eq_true_eq] at q
    omega
  · omega
theorem sx_neg {l : List UInt8} {j : Nat} (hj : 1 ≤ j) (h : sx l j < 0) : signF (l.drop j) = 0 := by
  have hb := u8_toNat (l.getD (j - 1) 0)
  unfold sx at h
  split at h
  · rename_i q
    rw [Bool.and_eq_true, decide_eq_true_eq, decide_eq_true_eq] at q
    rw [List.drop_eq_nil_of_le (by omega)]
    rfl
  · omega
theorem beg_far {b w : List UInt8} (h : b.length < w.length) : begF b w = false := by
  unfold begF
  rw [decide_eq_false_iff_not]
  intro q
  have := congrArg List.length q
  rw [List.length_take] at this
  omega
theorem beg_ne {b w : List UInt8} {k : Nat} (h1 : k < w.length) (h2 : ¬ b.getD k 0 = w.getD k 0) : begF b w = false := by
  unfold begF
  rw [decide_eq_false_iff_not]
  intro q
  apply h2
  rw [List.getD_eq_getElem?_getD, List.getD_eq_getElem?_getD, ← q, List.getElem?_take, if_pos (by omega)]
theorem beg_all {b w : List UInt8} (hl : w.length ≤ b.length) (h : ∀ k, k < w.length → b.getD k 0 = w.getD k 0) : begF b w = true := by
  unfold begF
  rw [decide_eq_true_eq]
  apply List.ext_getElem (by rw [List.length_take]; omega)
  intro k h1 h2
  have := h k h2
  rw [List.getD_eq_getElem?_getD, List.getD_eq_getElem?_getD, List.getElem?_eq_getElem (by omega), List.getElem?_eq_getElem h2] at this
  rw [List.getElem_take]
  exact this
theorem u8_ne {a b : UInt8} (h : ¬ (a.toNat : Int) = (b.toNat : Int)) : ¬ a = b := fun q => h (by rw [q])
theorem u8_eq {a b : UInt8} (h : (a.toNat : Int) = (b.toNat : Int)) : a = b := UInt8.toNat_inj.1 (by omega)
theorem part_succ (bs : List UInt8) (a n : Nat) : part bs a (n + 1) = part bs a n ++ [bs.getD (a + n) 0] := by
  unfold part
  rw [List.range_succ, List.map_append]
  rfl
theorem gX_range (f : FormF) (bs : List UInt8) : 0 ≤ gX f bs ∧ gX f bs ≤ 255 := by
  unfold gX
  split
  · exact byteAt_range' bs _
  · omega
theorem gL_range (f : FormF) (bs : List UInt8) : 0 ≤ gL f bs ∧ gL f bs ≤ 255 := byteAt_range' bs _
theorem gM_range (f : FormF) (bs : List UInt8) : 0 ≤ gM f bs ∧ gM f bs ≤ 255 := byteAt_range' bs _
theorem gC_bound {f : FormF} (h1 : FormOk f) (h2 : FormOk2 f) : 1 ≤ gC f ∧ gC f ≤ 4 := by
  have := h1.len
  have := h2.len
  unfold gC gB gA
  split <;> split <;> omega
theorem gE_bound {f : FormF} (h1 : FormOk f) (h2 : FormOk2 f) (bs : List UInt8) : gE f bs ≤ 6 := by
  have := gC_bound h1 h2
  unfold gE gE2
  split
  · split <;> omega
  · omega
/-- The answer so far. -/
def eJ (bs : List UInt8) (j : Nat) : Int := if ((formsF.take j).any fun f => cutF f bs) = true then 202 else 201
theorem eJ_yes {bs : List UInt8} {j : Nat} (hj : j < formsF.length) (h : cutF (formsF.getD j default) bs = true) : eJ bs (j + 1) = 202 := by
  unfold eJ
  rw [List.take_succ_eq_append_getElem hj, List.any_append]
  rw [getD_eq' hj] at h
  simp [h]
theorem eJ_no {bs : List UInt8} {j : Nat} (hj : j < formsF.length) (h : cutF (formsF.getD j default) bs = false) : eJ bs (j + 1) = eJ bs j := by
  unfold eJ
  rw [List.take_succ_eq_append_getElem hj, List.any_append]
  rw [getD_eq' hj] at h
  simp [h]
theorem eJ_all (bs : List UInt8) : eJ bs 59 = if (formsF.any fun f => cutF f bs) = true then 202 else 201 := by
  unfold eJ
  rw [show formsF.take 59 = formsF from rfl]
theorem pad_done {bs : List UInt8} {m : Nat} (h1 : ¬ bs.length + m < 10) (h2 : m = 0 ∨ bs.length + m ≤ 10) : bs ++ List.replicate m 1 = pad bs := by
  unfold pad
  congr 2
  omega
theorem no_hit1 {f : FormF} {bs : List UInt8} (h : fitsF f (guessF f bs) = false) : hitF bs f = false := by unfold hitF; rw [h]; rfl
theorem no_hit2 {f : FormF} {bs : List UInt8} (h : begF bs (bytesF f (guessF f bs)) = false) : hitF bs f = false := by unfold hitF; rw [h, Bool.and_false]
theorem is_hit {f : FormF} {bs : List UInt8} (h1 : fitsF f (guessF f bs) = true) (h2 : begF bs (bytesF f (guessF f bs)) = true) : hitF bs f = true := by unfold hitF; rw [h1, h2]; rfl
end Go.Proofs.YtjndpakhmgapjaaDoor
