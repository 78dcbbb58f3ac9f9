/-
  WHAT IS READ IS WRITTEN AGAIN AS IT STOOD.
-/
import Derived.Test.YtjndpakhmgapjaaDoorCut
import Derived.Test.YtjndpakhmgapjaaDoorLst
namespace Go.Proofs.YtjndpakhmgapjaaDoor
open Go Go.RowKit
set_option linter.unusedSimpArgs false
set_option linter.unusedVariables false
set_option linter.unnecessarySimpa false
def Ok (r : Rd) : Prop := r.cut = false ∧ r.wrong = false
section
variable {bs : List UInt8} {r : Rd} {l : List UInt8}
theorem ok_next (h : Ok (nextF bs r).2) : Ok r := by
  unfold nextF at h
  split at h
  · exact h
  · split at h
    · exact absurd (show true = false from h.1) (fun q => Bool.noConfusion q)
    · exact h
theorem ok_must {is : Bool} (h : Ok (mustF r is)) : Ok r ∧ is = true ∧ mustF r is = r := by
  unfold mustF at h ⊢
  by_cases hc : (!r.cut && !is) = true
  · rw [if_pos hc] at h; exact absurd (show true = false from h.2) (fun q => Bool.noConfusion q)
  · rw [if_neg hc] at h
    rw [if_neg hc]
    refine ⟨h, ?_, rfl⟩
    cases is
    · rw [h.1] at hc; exact absurd rfl hc
    · rfl
theorem ok_imm : ∀ k, Ok (immS bs r k).2 → Ok r
  | 0, h => h
  | k + 1, h => ok_imm k (ok_next h)
theorem ok_two (h : Ok (twoD bs r)) : Ok r := ok_next (ok_must h).1
theorem byte_of (b : UInt8) : byteOf (b.toNat : Int) = b := by
  unfold byteOf
  have h := u8_toNat b
  have e : ((b.toNat : Int) % 256).toNat = b.toNat := by omega
  rw [e]
  exact UInt8.ofNat_toNat
/-- So much has been read. -/
structure Pre (bs : List UInt8) (r : Rd) (l : List UInt8) : Prop where
  st : r = R0 l.length
  tk : bs.take l.length = l
theorem Pre.start (bs : List UInt8) : Pre bs rd0 [] := ⟨rfl, rfl⟩
theorem Pre.le (h : Pre bs r l) : l.length ≤ bs.length := by
  have := congrArg List.length h.tk
  rw [List.length_take] at this
  omega
theorem Pre.lt (h : Pre bs r l) (ok : Ok (nextF bs r).2) : l.length < bs.length := by
  rcases Nat.lt_or_ge l.length bs.length with g | g
  · exact g
  · exfalso
    have hl := h.le
    rw [h.st, nextF, if_neg (by show ¬ (false || false) = true; decide), if_pos (by show l.length = bs.length; omega)] at ok
    exact absurd (show true = false from ok.1) (fun q => Bool.noConfusion q)
theorem Pre.next (h : Pre bs r l) (ok : Ok (nextF bs r).2) : Pre bs (nextF bs r).2 (l ++ [byteOf (nextF bs r).1]) := by
  have hlt := h.lt ok
  obtain ⟨hr, ht⟩ := h
  subst hr
  rw [nx hlt]
  refine ⟨by rw [List.length_append]; rfl, ?_⟩
  rw [List.length_append]
  show bs.take (l.length + 1) = l ++ [byteOf (byteAt bs l.length)]
  rw [List.take_succ_eq_append_getElem hlt, ht]
  congr 2
  unfold byteAt
  rw [byte_of, List.getD_eq_getElem?_getD, List.getElem?_eq_getElem hlt]
  rfl
theorem leBytes_more : ∀ (k : Nat) (n m : Int), leBytes k (n + m * 256 ^ k) = leBytes k n
  | 0, _, _ => rfl
  | k + 1, n, m => by
    have e : n + m * 256 ^ (k + 1) = n + m * 256 ^ k * 256 := by rw [Int.pow_succ, Int.mul_assoc]
    rw [e, leBytes, leBytes, Int.add_mul_emod_self_right, Int.add_mul_ediv_right _ _ (by decide), leBytes_more k]
theorem Pre.immS (h : Pre bs r l) : ∀ k, Ok (immS bs r k).2 → Pre bs (immS bs r k).2 (l ++ leBytes k (immS bs r k).1)
  | 0, _ => by
    show Pre bs r (l ++ [])
    rw [List.append_nil]; exact h
  | k + 1, ok => by
    have h1 := Pre.immS h k (ok_next ok)
    have h2 := h1.next ok
    obtain ⟨a0, a1⟩ := imm_range bs r k
    have hp : (0 : Int) < 256 ^ k := Int.pow_pos (by decide)
    show Pre bs (nextF bs (Go.Proofs.YtjndpakhmgapjaaDoor.immS bs r k).2).2 (l ++ leBytes (k + 1) ((Go.Proofs.YtjndpakhmgapjaaDoor.immS bs r k).1 + (nextF bs (Go.Proofs.YtjndpakhmgapjaaDoor.immS bs r k).2).1 * 256 ^ k))
    rw [leBytes_succ, leBytes_more, Int.add_mul_ediv_right _ _ (by omega), Int.ediv_eq_zero_of_lt a0 a1, Int.zero_add, ← List.append_assoc]
    exact h2
theorem leBytes_sgn (k : Nat) (n : Int) : leBytes k (sgn k n) = leBytes k n := by
  unfold sgn
  split
  · rfl
  · have h := leBytes_more k n (-1)
    rw [← h]
    congr 1
    omega
theorem Pre.imm (h : Pre bs r l) (k : Nat) (ok : Ok (immD bs r k)) : Pre bs (immD bs r k) (l ++ immF (immV bs r k) k) := by
  unfold immF immV
  rw [leBytes_sgn]
  exact h.immS k ok
theorem immV1 : -128 ≤ immV bs r 1 ∧ immV bs r 1 ≤ 127 := by
  have h := imm_range bs r 1
  unfold immV sgn
  split <;> omega
theorem immV4 : smallF (immV bs r 4) = true := by
  have h := imm_range bs r 4
  unfold smallF inF immV sgn
  rw [Bool.and_eq_true, decide_eq_true_eq, decide_eq_true_eq]
  split <;> omega
theorem immV8 : I64 (immV bs r 8) := by
  have h := imm_range bs r 8
  unfold I64 immV sgn
  split <;> omega
theorem small_i64 {n : Int} (h : smallF n = true) : I64 n := by
  unfold smallF inF at h
  rw [Bool.and_eq_true, decide_eq_true_eq, decide_eq_true_eq] at h
  unfold I64
  omega
theorem I64_0 : I64 0 := by unfold I64; decide

/-! ### prefixes and registers -/
structure RxOk (x : Rx) : Prop where
  w : x.wide = 0 ∨ x.wide = 1
  p : x.reg = 0 ∨ x.reg = 8
  q : x.rm = 0 ∨ x.rm = 8
def rexB (x : Rx) : Int := 64 + x.reg / 8 * 4 + x.rm / 8 + 8 * x.wide
theorem fin256 {p : Int} (hp : 0 ≤ p ∧ p ≤ 255) (P : Int → Prop) (h : ∀ a : Fin 256, P (a.val : Int)) : P p := by
  have h2 := h ⟨p.toNat, by omega⟩
  have h3 : ((⟨p.toNat, by omega⟩ : Fin 256).val : Int) = p := by show ((p.toNat : Nat) : Int) = p; omega
  rwa [h3] at h2
set_option maxRecDepth 100000 in
theorem ands {v : Int} (hv : 0 ≤ v ∧ v ≤ 255) : (andI v 240 = 64 → andI v 2 = 0 → v = 64 + v / 4 % 2 * 4 + v % 2 + 8 * (v / 8 % 2)) ∧ (andI v 242 = 64 → v = 64 + v / 4 % 2 * 4 + v % 2 + 8 * (v / 8 % 2)) ∧ (andI v 240 = 144 → v = 144 + v % 16) ∧ (andI v 240 = 64 → v = 64 + v % 16) ∧ (andI v 240 = 112 → v = 112 + v % 16) ∧ (andI v 240 = 128 → v = 128 + v % 16) ∧ (andI v 248 = 80 → v = 80 + v % 8) ∧ (andI v 248 = 88 → v = 88 + v % 8) ∧ (andI v 248 = 184 → v = 184 + v % 8) :=
  fin256 hv (fun v => (andI v 240 = 64 → andI v 2 = 0 → v = 64 + v / 4 % 2 * 4 + v % 2 + 8 * (v / 8 % 2)) ∧ (andI v 242 = 64 → v = 64 + v / 4 % 2 * 4 + v % 2 + 8 * (v / 8 % 2)) ∧ (andI v 240 = 144 → v = 144 + v % 16) ∧ (andI v 240 = 64 → v = 64 + v % 16) ∧ (andI v 240 = 112 → v = 112 + v % 16) ∧ (andI v 240 = 128 → v = 128 + v % 16) ∧ (andI v 248 = 80 → v = 80 + v % 8) ∧ (andI v 248 = 88 → v = 88 + v % 8) ∧ (andI v 248 = 184 → v = 184 + v % 8)) (by decide +kernel)
theorem split_ok (v : Int) : RxOk (splitF v) := by
  unfold splitF
  refine ⟨?_, ?_, ?_⟩ <;> dsimp only <;> omega
theorem split_rex {v : Int} (h : v = 64 + v / 4 % 2 * 4 + v % 2 + 8 * (v / 8 % 2)) : rexB (splitF v) = v := by
  unfold rexB splitF
  dsimp only
  omega
theorem rexB1 {x : Rx} {p q : Int} (hw : x.wide = 1) (hp : p / 8 * 8 = x.reg) (hq : q / 8 * 8 = x.rm) : rexB x = rexN true p q := by
  unfold rexB rexN
  rw [← hp, ← hq, hw, if_pos rfl]
  omega
theorem rexB0 {x : Rx} {p q : Int} (hw : x.wide = 0) (hp : p / 8 * 8 = x.reg) (hq : q / 8 * 8 = x.rm) : rexB x = rexN false p q := by
  unfold rexB rexN
  rw [← hp, ← hq, hw, if_neg (fun q => Bool.noConfusion q)]
  omega
theorem or_part {c : Int} (hc : c = 0 ∨ c = 8) (a : Int) : orI c (a % 8) = c + a % 8 := by
  rcases hc with rfl | rfl
  · exact fin8 (fun a => orI 0 a = 0 + a) (by decide)
  · exact fin8 (fun a => orI 8 a = 8 + a) (by decide)
theorem Pre.two (h : Pre bs r l) {x : Rx} (hx : RxOk x) (ok : Ok (twoD bs r)) : ∃ p q, twoV bs x r = (p, q) ∧ (0 ≤ p ∧ p ≤ 15) ∧ (0 ≤ q ∧ q ≤ 15) ∧ p / 8 * 8 = x.reg ∧ q / 8 * 8 = x.rm ∧ Pre bs (twoD bs r) (l ++ [byteOf (twoN p q)]) := by
  obtain ⟨h1, h2, h3⟩ := ok_must ok
  have hn := h.next h1
  have hr := next_range bs r
  rw [decide_eq_true_eq] at h2
  have hp := hx.p
  have hq := hx.q
  refine ⟨_, _, rfl, ?_, ?_, ?_, ?_, ?_⟩
  · rw [or_part hx.p]; omega
  · rw [or_part hx.q]; omega
  · rw [or_part hx.p]; omega
  · rw [or_part hx.q]; omega
  · rw [or_part hx.p, or_part hx.q]
    have e : twoN (x.reg + (nextF bs r).1 / 8 % 8) (x.rm + (nextF bs r).1 % 8) = (nextF bs r).1 := by unfold twoN; omega
    rw [e]
    unfold twoD
    rw [h3]
    exact hn
theorem Pre.one (h : Pre bs r l) {x : Rx} (hx : RxOk x) (ok : Ok (oneD bs x r)) : ∃ p q, oneV bs x r = (p, q) ∧ (0 ≤ p ∧ p ≤ 7) ∧ (0 ≤ q ∧ q ≤ 15) ∧ x.reg = 0 ∧ q / 8 * 8 = x.rm ∧ Pre bs (oneD bs x r) (l ++ [byteOf (twoN p q)]) := by
  obtain ⟨h1, h2, h3⟩ := ok_must (ok_two ok)
  rw [decide_eq_true_eq] at h2
  unfold oneD at ok
  rw [h3] at ok
  obtain ⟨p, q, e, hp, hq, rp, rq, hn⟩ := h.two hx ok
  refine ⟨p, q, ?_, by omega, hq, h2, rq, ?_⟩
  · unfold oneV; rw [h3]; exact e
  · unfold oneD; rw [h3]; exact hn
theorem Pre.mem (h : Pre bs r l) {x : Rx} (hx : RxOk x) (ok : Ok (memD bs r)) : ∃ p q n, memV bs x r = (p, q, n) ∧ (0 ≤ p ∧ p ≤ 15) ∧ (0 ≤ q ∧ q ≤ 15) ∧ p / 8 * 8 = x.reg ∧ q / 8 * 8 = x.rm ∧ smallF n = true ∧ Pre bs (memD bs r) (l ++ memF p q n) := by
  have ok2 : Ok (memD2 bs r) := ok_imm 4 ok
  have ok1 : Ok (memD1 bs r) := by
    unfold memD2 at ok2
    split at ok2
    · exact ok_next (ok_must ok2).1
    · exact ok2
  obtain ⟨h1, h2, h3⟩ := ok_must ok1
  have hn := h.next h1
  have hr := next_range bs r
  rw [decide_eq_true_eq] at h2
  have hp := hx.p
  have hq := hx.q
  have e : memN (x.reg + (nextF bs r).1 / 8 % 8) (x.rm + (nextF bs r).1 % 8) = (nextF bs r).1 := by unfold memN; omega
  have e4 : (x.rm + (nextF bs r).1 % 8) % 8 = (nextF bs r).1 % 8 := by omega
  have hd1 : Pre bs (memD1 bs r) (l ++ [byteOf (nextF bs r).1]) := by unfold memD1; rw [h3]; exact hn
  have hd2 : Pre bs (memD2 bs r) (l ++ (byteOf (nextF bs r).1 :: (if (nextF bs r).1 % 8 = 4 then [36] else []))) := by
    unfold memD2 at ok2 ⊢
    by_cases h4 : (nextF bs r).1 % 8 = 4
    · rw [if_pos h4] at ok2 ⊢
      rw [if_pos h4]
      obtain ⟨g1, g2, g3⟩ := ok_must ok2
      rw [decide_eq_true_eq] at g2
      have := hd1.next g1
      rw [g2, List.append_assoc] at this
      rw [g3]
      exact this
    · rw [if_neg h4]
      rw [if_neg h4]
      exact hd1
  refine ⟨_, _, _, rfl, ?_, ?_, ?_, ?_, immV4, ?_⟩
  · rw [or_part hx.p]; omega
  · rw [or_part hx.q]; omega
  · rw [or_part hx.p]; omega
  · rw [or_part hx.q]; omega
  · rw [or_part hx.p, or_part hx.q]
    unfold memF
    rw [e, e4]
    have := hd2.imm 4 ok
    rw [List.append_assoc] at this
    exact this

/-! ### each instruction -/
theorem valid_fl {i : Ins} {f : Int} (hf : fieldsF i.kind = (f, true)) (hd : 0 ≤ i.d ∧ i.d ≤ 15) (hs : 0 ≤ i.s ∧ i.s ≤ 15) (hc : 0 ≤ i.cond ∧ i.cond ≤ 15) (h1 : noneF f 1 i.d = true) (h2 : noneF f 2 i.s = true) (h4 : noneF f 4 i.imm = true) (h8 : noneF f 8 i.cond = true) (h16 : noneF f 16 i.size = true) (hz : sizedF i = true) : validF i = true := by
  have hb : bad0 i = false := by
    unfold bad0 inF
    rw [hf, decide_eq_true hd.1, decide_eq_true hd.2, decide_eq_true hs.1, decide_eq_true hs.2, decide_eq_true hc.1, decide_eq_true hc.2]
    rfl
  unfold validF
  rw [if_neg (by rw [hb]; exact fun q => Bool.noConfusion q), hf]
  dsimp only
  rw [h1, h2, h4, h8, h16, hz]
  rfl
/-- What is done is right. -/
def Dn (bs : List UInt8) (p : Ins × Rd) : Prop := Ok p.2 → validF p.1 = true ∧ I64 p.1.imm ∧ Pre bs p.2 (encF p.1)
theorem Dn.mk {i : Ins} {r : Rd} (h : Ok r → ∃ l, validF i = true ∧ I64 i.imm ∧ Pre bs r l ∧ encF i = l) : Dn bs (i, r) := by
  intro ok
  obtain ⟨l, h1, h2, h3, h4⟩ := h ok
  exact ⟨h1, h2, h4 ▸ h3⟩
theorem Dn.no {i : Ins} {r : Rd} : Dn bs (i, mustF r false) := fun ok => absurd (ok_must ok).2.1 (fun q => Bool.noConfusion q)
abbrev R15 : 0 ≤ (0 : Int) ∧ (0 : Int) ≤ 15 := ⟨by decide, by decide⟩
end
section
variable {bs : List UInt8} {r : Rd} {l : List UInt8}
theorem byte0 {op : Int} {v : Int} (h : op = v) : byteOf op = byteOf v := by rw [h]
theorem m16 (c : Int) : 0 ≤ c % 16 ∧ c % 16 ≤ 15 := by omega
theorem d8 {x : Rx} (hx : RxOk x) (op : Int) : (0 ≤ orI x.rm (op % 8) ∧ orI x.rm (op % 8) ≤ 15) ∧ orI x.rm (op % 8) / 8 * 8 = x.rm ∧ orI x.rm (op % 8) % 8 = op % 8 := by
  have h := hx.q
  rw [or_part h]
  omega
theorem rex_w {x : Rx} (hx : RxOk x) (h : ¬ x.wide = 0) : x.wide = 1 := hx.w.resolve_left h
theorem sized_j4 {i : Ins} (hk : i.kind = 35 ∨ i.kind = 36) (hz : i.size = 4) (hs : smallF i.imm = true) : sizedF i = true := by
  unfold sizedF
  rw [if_neg (by omega), if_pos hk, hz, hs]
  rfl
/-! ### two and far -/
theorem movedR_dn {x : Rx} (hx : RxOk x) (hw : x.wide = 1) (h : Pre bs r [byteOf (rexB x), 137]) : Dn bs (movedR bs x r) := by
  unfold movedR
  split
  · refine Dn.mk fun ok => ?_
    obtain ⟨p, q, n, e, hp, hq, rp, rq, hn, hk⟩ := h.mem hx ok
    rw [e]
    refine ⟨_, valid_fl (f := 23) rfl hq hp R15 rfl rfl rfl rfl rfl ?_, small_i64 hn, hk, ?_⟩
    · show ((decide ((8 : Int) = 8) || decide ((8 : Int) = 4) || decide ((8 : Int) = 1)) && smallF n) = true
      rw [hn]; rfl
    · rw [rexB1 hw rp rq]; rfl
  · refine Dn.mk fun ok => ?_
    obtain ⟨p, q, e, hp, hq, rp, rq, hk⟩ := h.two hx ok
    rw [e]
    refine ⟨_, valid_fl (f := 3) rfl hq hp R15 rfl rfl rfl rfl rfl rfl, I64_0, hk, ?_⟩
    rw [rexB1 hw rp rq]; rfl
theorem farIn_dn {x : Rx} {op : Int} (hx : RxOk x) (hop : 0 ≤ op ∧ op ≤ 255) (h : Pre bs r [byteOf (rexB x), 15, byteOf op]) : Dn bs (farIn bs x op r) := by
  have hA := ands hop
  unfold farIn
  split
  · rename_i hc
    rw [Bool.and_eq_true, decide_eq_true_eq, decide_eq_true_eq] at hc
    have ho := hA.2.2.1 hc.2
    refine Dn.mk fun ok => ?_
    obtain ⟨ok1, ok2, ok3⟩ := ok_must ok
    obtain ⟨p, q, e, hp, hq, rp, rq, hk⟩ := h.one hx ok1
    rw [e, decide_eq_true_eq] at ok2
    dsimp only at ok2
    subst ok2
    rw [ok3, e]
    refine ⟨_, valid_fl (f := 9) rfl hq R15 (m16 op) rfl rfl rfl rfl rfl rfl, I64_0, hk, ?_⟩
    rw [rexB0 (p := 0) (q := q) hc.1 rp.symm rq]
    show [_, 15, byteOf (144 + op % 16), _] = [_, 15, byteOf op, _]
    rw [← ho]
  split
  · rename_i _ hc
    rw [Bool.and_eq_true, decide_eq_true_eq, decide_eq_true_eq] at hc
    have ho := hA.2.2.2.1 hc.2
    refine Dn.mk fun ok => ?_
    obtain ⟨p, q, e, hp, hq, rp, rq, hk⟩ := h.two hx ok
    rw [e]
    refine ⟨_, valid_fl (f := 11) rfl hp hq (m16 op) rfl rfl rfl rfl rfl rfl, I64_0, hk, ?_⟩
    rw [rexB1 hc.1 rp rq]
    show [_, 15, byteOf (64 + op % 16), _] = [_, 15, byteOf op, _]
    rw [← ho]
  split
  · rename_i _ _ hc
    rw [Bool.and_eq_true, decide_eq_true_eq, decide_eq_true_eq] at hc
    refine Dn.mk fun ok => ?_
    obtain ⟨p, q, e, hp, hq, rp, rq, hk⟩ := h.two hx ok
    rw [e]
    refine ⟨_, valid_fl (f := 3) rfl hp hq R15 rfl rfl rfl rfl rfl rfl, I64_0, hk, ?_⟩
    rw [rexB1 hc.1 rp rq, hc.2]
    rfl
  split
  · rename_i _ _ _ hc
    rw [Bool.and_eq_true, decide_eq_true_eq, decide_eq_true_eq] at hc
    split
    · refine Dn.mk fun ok => ?_
      obtain ⟨p, q, n, e, hp, hq, rp, rq, hn, hk⟩ := h.mem hx ok
      rw [e]
      refine ⟨_, valid_fl (f := 23) rfl hp hq R15 rfl rfl rfl rfl rfl ?_, small_i64 hn, hk, ?_⟩
      · show ((decide ((1 : Int) = 8) || decide ((1 : Int) = 4) || decide ((1 : Int) = 1)) && smallF n) = true
        rw [hn]; rfl
      · rw [rexB1 hc.1 rp rq, hc.2]; rfl
    · refine Dn.mk fun ok => ?_
      obtain ⟨p, q, e, hp, hq, rp, rq, hk⟩ := h.two hx ok
      rw [e]
      refine ⟨_, valid_fl (f := 3) rfl hp hq R15 rfl rfl rfl rfl rfl rfl, I64_0, hk, ?_⟩
      rw [rexB1 hc.1 rp rq, hc.2]; rfl
  · exact Dn.no
theorem far_dn {x : Rx} (hx : RxOk x) (h : Pre bs r [byteOf (rexB x), 15]) : Dn bs (farR bs x r) := by
  unfold farR
  split
  · rename_i hc
    intro ok
    rw [show (nextF bs (farD1 x r)).2.cut = false from ok.1, show (nextF bs (farD1 x r)).2.wrong = false from ok.2] at hc
    exact absurd hc (by decide)
  · rename_i hc
    have ok : Ok (nextF bs (farD1 x r)).2 := by
      rw [Bool.or_eq_true, not_or, Bool.not_eq_true, Bool.not_eq_true] at hc
      exact hc
    obtain ⟨h1, h2, h3⟩ := ok_must (ok_next ok)
    have e : farD1 x r = r := h3
    rw [e] at ok ⊢
    exact farIn_dn hx (next_range bs r) (h.next ok)
theorem narrow_dn {x : Rx} {op : Int} (hx : RxOk x) (hw : x.wide = 0) (hop : 0 ≤ op ∧ op ≤ 255) (h : Pre bs r [byteOf (rexB x), byteOf op]) : Dn bs (narrowR bs x op r) := by
  have hA := ands hop
  unfold narrowR
  split
  · rename_i hc
    refine Dn.mk fun ok => ?_
    obtain ⟨p, q, n, e, hp, hq, rp, rq, hn, hk⟩ := h.mem hx ok
    rw [e]
    refine ⟨_, valid_fl (f := 23) rfl hp hq R15 rfl rfl rfl rfl rfl ?_, small_i64 hn, hk, ?_⟩
    · show ((decide ((4 : Int) = 8) || decide ((4 : Int) = 4) || decide ((4 : Int) = 1)) && smallF n) = true
      rw [hn]; rfl
    · rw [rexB0 hw rp rq, hc]; rfl
  split
  · rename_i _ hc
    refine Dn.mk fun ok => ?_
    obtain ⟨p, q, n, e, hp, hq, rp, rq, hn, hk⟩ := h.mem hx ok
    rw [e]
    refine ⟨_, valid_fl (f := 23) rfl hq hp R15 rfl rfl rfl rfl rfl ?_, small_i64 hn, hk, ?_⟩
    · show ((decide ((4 : Int) = 8) || decide ((4 : Int) = 4) || decide ((4 : Int) = 1)) && smallF n) = true
      rw [hn]; rfl
    · rw [rexB0 hw rp rq, hc]; rfl
  split
  · rename_i _ _ hc
    refine Dn.mk fun ok => ?_
    obtain ⟨p, q, n, e, hp, hq, rp, rq, hn, hk⟩ := h.mem hx ok
    rw [e]
    refine ⟨_, valid_fl (f := 23) rfl hq hp R15 rfl rfl rfl rfl rfl ?_, small_i64 hn, hk, ?_⟩
    · show ((decide ((1 : Int) = 8) || decide ((1 : Int) = 4) || decide ((1 : Int) = 1)) && smallF n) = true
      rw [hn]; rfl
    · rw [rexB0 hw rp rq, hc]; rfl
  split
  · rename_i _ _ _ hc
    refine Dn.mk fun ok => ?_
    obtain ⟨ok1, ok2, ok3⟩ := ok_must ok
    obtain ⟨p, q, e, hp, hq, rp, rq, hk⟩ := h.one hx ok1
    rw [e, Bool.or_eq_true, decide_eq_true_eq, decide_eq_true_eq] at ok2
    dsimp only at ok2
    rw [ok3, e]
    dsimp only
    rcases ok2 with rfl | rfl
    · rw [if_pos rfl]
      refine ⟨_, valid_fl (f := 1) rfl hq R15 R15 rfl rfl rfl rfl rfl rfl, I64_0, hk, ?_⟩
      rw [rexB0 (p := 0) (q := q) hw rp.symm rq, hc]; rfl
    · rw [if_neg (by decide)]
      refine ⟨_, valid_fl (f := 1) rfl hq R15 R15 rfl rfl rfl rfl rfl rfl, I64_0, hk, ?_⟩
      rw [rexB0 (p := 0) (q := q) hw rp.symm rq, hc]; rfl
  split
  · rename_i _ _ _ _ hc
    have ho := hA.2.2.2.2.2.2.1 hc
    refine Dn.mk fun ok => ?_
    obtain ⟨ok1, ok2, ok3⟩ := ok_must ok
    rw [decide_eq_true_eq] at ok2
    rw [ok3]
    obtain ⟨g1, g2, g3⟩ := d8 hx op
    refine ⟨_, valid_fl (f := 1) rfl g1 R15 R15 rfl rfl rfl rfl rfl rfl, I64_0, h, ?_⟩
    rw [rexB0 (p := 0) hw ok2.symm g2]
    show [_, byteOf (80 + orI x.rm (op % 8) % 8)] = _
    rw [g3, ← ho]
  split
  · rename_i _ _ _ _ _ hc
    have ho := hA.2.2.2.2.2.2.2.1 hc
    refine Dn.mk fun ok => ?_
    obtain ⟨ok1, ok2, ok3⟩ := ok_must ok
    rw [decide_eq_true_eq] at ok2
    rw [ok3]
    obtain ⟨g1, g2, g3⟩ := d8 hx op
    refine ⟨_, valid_fl (f := 1) rfl g1 R15 R15 rfl rfl rfl rfl rfl rfl, I64_0, h, ?_⟩
    rw [rexB0 (p := 0) hw ok2.symm g2]
    show [_, byteOf (88 + orI x.rm (op % 8) % 8)] = _
    rw [g3, ← ho]
  · exact Dn.no
/-! ### those with a number in ModRM -/
theorem num_kinds {op n : Int} (hn : 0 ≤ n ∧ n ≤ 7) (hop : op = 129 ∨ op = 247 ∨ op = 211 ∨ op = 193) (h : 0 < kindN op n 16) : opF (kindN op n 16) = (op, n) ∧ clsF (kindN op n 16) = (if op = 129 then 1 else if op = 193 then 3 else 2) ∧ fieldsF (kindN op n 16) = (if op = 129 then 5 else if op = 193 then 5 else 1, true) ∧ (op = 193 → kindN op n 16 = 29 ∨ kindN op n 16 = 30 ∨ kindN op n 16 = 31) ∧ (¬ op = 193 → 15 ≤ kindN op n 16 ∧ kindN op n 16 ≤ 28) := by
  have e : n = 0 ∨ n = 1 ∨ n = 2 ∨ n = 3 ∨ n = 4 ∨ n = 5 ∨ n = 6 ∨ n = 7 := by omega
  rcases hop with rfl | rfl | rfl | rfl <;> rcases e with rfl | rfl | rfl | rfl | rfl | rfl | rfl | rfl <;> revert h <;> decide
theorem sized_mid {i : Ins} (h : 15 ≤ i.kind ∧ i.kind ≤ 28) (hs : smallF i.imm = true) : sizedF i = true := by
  unfold sizedF
  rw [if_neg (by omega), if_neg (by omega), if_neg (by omega), hs, Bool.or_true]
theorem numbered_dn {x : Rx} {op : Int} (hx : RxOk x) (hw : x.wide = 1) (hop : op = 129 ∨ op = 247 ∨ op = 211 ∨ op = 193) (h : Pre bs r [byteOf (rexB x), byteOf op]) : Dn bs (numberedR bs x op r) := by
  have hN : Ok (numD1 bs x op r) → ∃ n q, oneV bs x r = (n, q) ∧ (0 ≤ q ∧ q ≤ 15) ∧ byteOf (rexB x) = byteOf (rexN true 0 q) ∧ 0 < kindN op n 16 ∧ (0 ≤ n ∧ n ≤ 7) ∧ Pre bs (numD1 bs x op r) [byteOf (rexB x), byteOf op, byteOf (twoN n q)] := by
    intro ok
    obtain ⟨ok1, ok2, ok3⟩ := ok_must ok
    obtain ⟨p, q, e, hp, hq, rp, rq, hk⟩ := h.one hx ok1
    rw [e, decide_eq_true_eq] at ok2
    refine ⟨p, q, e, hq, by rw [rexB1 (p := 0) (q := q) hw rp.symm rq], ok2, hp, ?_⟩
    unfold numD1
    rw [ok3]
    exact hk
  unfold numberedR
  split
  · rename_i hc
    refine Dn.mk fun ok => ?_
    obtain ⟨n, q, e, hq, hx2, hk0, hn, hk⟩ := hN (ok_imm 4 ok)
    obtain ⟨k1, k2, k3, _, k5⟩ := num_kinds hn hop hk0
    rw [if_pos hc] at k2 k3
    rw [e]
    dsimp only
    refine ⟨_, valid_fl k3 hq R15 R15 rfl rfl rfl rfl rfl (sized_mid (k5 (by omega)) immV4), small_i64 immV4, hk.imm 4 ok, ?_⟩
    rw [enc1 k2]
    dsimp only
    rw [k1, hx2]; rfl
  split
  · rename_i hc0 hc
    refine Dn.mk fun ok => ?_
    obtain ⟨ok1, ok2, ok3⟩ := ok_must ok
    obtain ⟨n, q, e, hq, hx2, hk0, hn, hk⟩ := hN (ok_imm 1 ok1)
    obtain ⟨k1, k2, k3, k4, _⟩ := num_kinds hn hop hk0
    rw [if_neg hc0, if_pos hc] at k2 k3
    rw [e, ok3]
    dsimp only
    have hi : sizedF ⟨kindN op n 16, q, 0, 0, 0, immV bs (numD1 bs x op r) 1⟩ = true := by
      have := k4 hc
      unfold sizedF
      dsimp only
      rw [if_neg (by omega), if_neg (by omega), if_pos this]
      exact ok2
    have hv := immV1 (bs := bs) (r := numD1 bs x op r)
    refine ⟨_, valid_fl k3 hq R15 R15 rfl rfl rfl rfl rfl hi, by show I64 (immV bs _ 1); unfold I64; omega, hk.imm 1 ok1, ?_⟩
    rw [enc3 k2]
    dsimp only
    rw [k1, hx2]; rfl
  · rename_i hc0 hc
    refine Dn.mk fun ok => ?_
    obtain ⟨n, q, e, hq, hx2, hk0, hn, hk⟩ := hN ok
    obtain ⟨k1, k2, k3, _, k5⟩ := num_kinds hn hop hk0
    rw [if_neg hc0, if_neg hc] at k2 k3
    rw [e]
    dsimp only
    refine ⟨_, valid_fl k3 hq R15 R15 rfl rfl rfl rfl rfl (sized_mid (k5 hc) rfl), I64_0, hk, ?_⟩
    rw [enc2 k2]
    dsimp only
    rw [k1, hx2]
/-! ### behind a REX byte -/
theorem kindP_mem {op k : Int} (h : kindP op = some k) : (opF k).1 = op ∧ k ∈ kindsP := by
  unfold kindP at h
  exact ⟨by simpa using List.find?_some h, List.mem_of_find?_eq_some h⟩
theorem kindP_cls : ∀ k ∈ kindsP, clsF k = 0 ∧ fieldsF k = (3, true) ∧ 6 ≤ k ∧ k ≤ 14 := by decide
theorem sized_low {i : Ins} (h : 6 ≤ i.kind ∧ i.kind ≤ 14) (hs : smallF i.imm = true) : sizedF i = true := by
  unfold sizedF
  rw [if_neg (by omega), if_neg (by omega), if_neg (by omega), hs, Bool.or_true]
theorem prefIn_dn {x : Rx} {op : Int} (hx : RxOk x) (hop : 0 ≤ op ∧ op ≤ 255) (h : Pre bs r [byteOf (rexB x), byteOf op]) : Dn bs (prefIn bs x op r) := by
  have hA := ands hop
  unfold prefIn
  split
  · rename_i hc
    rw [hc] at h
    exact far_dn hx h
  split
  · rename_i _ hw
    exact narrow_dn hx hw hop h
  have hw : x.wide = 1 := rex_w hx (by assumption)
  split
  · rename_i _ _ hc
    have ho := hA.2.2.2.2.2.2.2.2 hc
    refine Dn.mk fun ok => ?_
    obtain ⟨ok1, ok2, ok3⟩ := ok_must ok
    obtain ⟨ok4, ok5, ok6⟩ := ok_must (ok_imm 8 ok1)
    rw [decide_eq_true_eq] at ok5
    rw [ok3]
    rw [ok6] at ok1 ok2 ⊢
    rw [Bool.not_eq_true'] at ok2
    obtain ⟨g1, g2, g3⟩ := d8 hx op
    refine ⟨_, valid_fl (f := 5) rfl g1 R15 R15 rfl rfl rfl rfl rfl rfl, immV8, h.imm 8 ok1, ?_⟩
    rw [enc5 rfl]
    dsimp only
    rw [if_neg (by rw [ok2]; exact fun q => Bool.noConfusion q), rexB1 (p := 0) hw ok5.symm g2, g3, ← ho]; rfl
  split
  · rename_i _ _ _ hc
    refine Dn.mk fun ok => ?_
    obtain ⟨p, q, n, e, hp, hq, rp, rq, hn, hk⟩ := h.mem hx ok
    rw [e]
    refine ⟨_, valid_fl (f := 23) rfl hp hq R15 rfl rfl rfl rfl rfl ?_, small_i64 hn, hk, ?_⟩
    · show ((decide ((8 : Int) = 8) || decide ((8 : Int) = 4) || decide ((8 : Int) = 1)) && smallF n) = true
      rw [hn]; rfl
    · rw [rexB1 hw rp rq, hc]; rfl
  split
  · rename_i _ _ _ _ hc
    refine Dn.mk fun ok => ?_
    obtain ⟨p, q, n, e, hp, hq, rp, rq, hn, hk⟩ := h.mem hx ok
    rw [e]
    refine ⟨_, valid_fl (f := 7) rfl hp hq R15 rfl rfl rfl rfl rfl ?_, small_i64 hn, hk, ?_⟩
    · exact hn
    · rw [rexB1 hw rp rq, hc]; rfl
  split
  · rename_i _ _ _ _ _ hc
    rw [hc] at h
    exact movedR_dn hx hw h
  split
  · rename_i _ _ _ _ _ _ hc
    refine Dn.mk fun ok => ?_
    obtain ⟨ok1, ok2, ok3⟩ := ok_must (ok_imm 4 ok)
    obtain ⟨p, q, e, hp, hq, rp, rq, hk⟩ := h.one hx ok1
    rw [ok3] at ok ⊢
    rw [e, decide_eq_true_eq] at ok2
    dsimp only at ok2
    subst ok2
    rw [e]
    refine ⟨_, valid_fl (f := 5) rfl hq R15 R15 rfl rfl rfl rfl rfl rfl, small_i64 immV4, hk.imm 4 ok, ?_⟩
    rw [enc5 rfl]
    dsimp only
    rw [if_pos immV4, rexB1 (p := 0) hw rp.symm rq, hc]; rfl
  split
  · rename_i _ _ _ _ _ _ _ hc
    exact numbered_dn hx hw hc h
  split
  · rename_i k hc
    obtain ⟨ho, hm⟩ := kindP_mem hc
    obtain ⟨c0, cf, cr⟩ := kindP_cls k hm
    refine Dn.mk fun ok => ?_
    obtain ⟨p, q, e, hp, hq, rp, rq, hk⟩ := h.two hx ok
    rw [e]
    refine ⟨_, valid_fl cf hq hp R15 rfl rfl rfl rfl rfl (sized_low cr rfl), I64_0, hk, ?_⟩
    rw [enc0 c0]
    dsimp only
    rw [rexB1 hw rp rq, ho]; rfl
  · exact Dn.no
theorem next_keeps (bs : List UInt8) (r : Rd) : (nextF bs r).2.wrong = r.wrong := by
  unfold nextF
  split
  · rfl
  · split <;> rfl
theorem ok_pref {x : Rx} (h : Ok (prefR bs x r).2) : Ok r := by
  unfold prefR at h
  split at h
  · exact ok_next h
  · rename_i hc
    rw [Bool.or_eq_true, not_or, Bool.not_eq_true, Bool.not_eq_true] at hc
    exact ok_next hc
theorem pref_dn {x : Rx} (hx : RxOk x) (h : Pre bs r [byteOf (rexB x)]) : Dn bs (prefR bs x r) := by
  unfold prefR
  split
  · rename_i hc
    intro ok
    rw [show (nextF bs r).2.cut = false from ok.1, show (nextF bs r).2.wrong = false from ok.2] at hc
    exact absurd hc (by decide)
  · rename_i hc
    have ok : Ok (nextF bs r).2 := by
      rw [Bool.or_eq_true, not_or, Bool.not_eq_true, Bool.not_eq_true] at hc
      exact hc
    exact prefIn_dn hx (next_range bs r) (h.next ok)
/-! ### behind a byte 66 or F2 -/
theorem realK_pos {first op : Int} {x : Rx} (h : 0 < realK first x op) : (first = 102 ∧ x.wide = 1 ∧ op = 110 ∧ realK first x op = 45) ∨ (first = 102 ∧ x.wide = 0 ∧ op = 46 ∧ realK first x op = 51) ∨ (first = 242 ∧ x.wide = 1 ∧ op = 42 ∧ realK first x op = 52) ∨ (first = 242 ∧ x.wide = 0 ∧ op = 88 ∧ realK first x op = 47) ∨ (first = 242 ∧ x.wide = 0 ∧ op = 89 ∧ realK first x op = 48) ∨ (first = 242 ∧ x.wide = 0 ∧ op = 92 ∧ realK first x op = 49) ∨ (first = 242 ∧ x.wide = 0 ∧ op = 94 ∧ realK first x op = 50) := by
  generalize hk : realK first x op = k at h ⊢
  unfold realK at hk
  simp only [Bool.and_eq_true, decide_eq_true_eq] at hk
  split at hk
  · rename_i hc
    exact .inl ⟨hc.1.1, hc.1.2, hc.2, hk.symm⟩
  split at hk
  · rename_i hc
    exact .inr (.inl ⟨hc.1.1, hc.1.2, hc.2, hk.symm⟩)
  split at hk
  · rename_i hc
    exact .inr (.inr (.inl ⟨hc.1.1, hc.1.2, hc.2, hk.symm⟩))
  split at hk
  · rename_i hc
    exact .inr (.inr (.inr (.inl ⟨hc.1.1, hc.1.2, hc.2, hk.symm⟩)))
  split at hk
  · rename_i hc
    exact .inr (.inr (.inr (.inr (.inl ⟨hc.1.1, hc.1.2, hc.2, hk.symm⟩))))
  split at hk
  · rename_i hc
    exact .inr (.inr (.inr (.inr (.inr (.inl ⟨hc.1.1, hc.1.2, hc.2, hk.symm⟩)))))
  split at hk
  · rename_i hc
    exact .inr (.inr (.inr (.inr (.inr (.inr (⟨hc.1.1, hc.1.2, hc.2, hk.symm⟩))))))
  · omega
theorem realIn_dn {x : Rx} {first op : Int} (hx : RxOk x) (h : Pre bs r [byteOf first, byteOf (rexB x), 15, byteOf op]) : Dn bs (realIn bs first x op r) := by
  unfold realIn
  split
  · rename_i hc
    rw [Bool.and_eq_true, Bool.and_eq_true, decide_eq_true_eq, decide_eq_true_eq, decide_eq_true_eq] at hc
    obtain ⟨⟨hf, hw⟩, ho⟩ := hc
    refine Dn.mk fun ok => ?_
    obtain ⟨p, q, e, hp, hq, rp, rq, hk⟩ := h.two hx ok
    rw [e]
    refine ⟨_, valid_fl (f := 3) rfl hq hp R15 rfl rfl rfl rfl rfl rfl, I64_0, hk, ?_⟩
    rw [rexB1 hw rp rq, hf, ho]; rfl
  · refine Dn.mk fun ok => ?_
    obtain ⟨ok1, ok2, ok3⟩ := ok_must (ok_two ok)
    rw [decide_eq_true_eq] at ok2
    rw [ok3] at ok ⊢
    obtain ⟨p, q, e, hp, hq, rp, rq, hk⟩ := h.two hx ok
    rw [e]
    dsimp only
    rcases realK_pos ok2 with ⟨hf, hw, ho, hk2⟩ | ⟨hf, hw, ho, hk2⟩ | ⟨hf, hw, ho, hk2⟩ | ⟨hf, hw, ho, hk2⟩ | ⟨hf, hw, ho, hk2⟩ | ⟨hf, hw, ho, hk2⟩ | ⟨hf, hw, ho, hk2⟩ <;> rw [hk2]
    all_goals refine ⟨_, valid_fl (f := 3) rfl hp hq R15 rfl rfl rfl rfl rfl rfl, I64_0, hk, ?_⟩
    all_goals first | (rw [rexB1 hw rp rq, hf, ho]; rfl) | (rw [rexB0 hw rp rq, hf, ho]; rfl)
theorem real_dn {first : Int} (h : Pre bs r [byteOf first]) : Dn bs (realR bs first r) := by
  unfold realR
  split
  · rename_i hc
    intro ok
    rw [show (nextF bs r).2.cut = false from ok.1] at hc
    exact absurd hc (by decide)
  split
  · rename_i hc
    intro ok
    rw [show (nextF bs (realD2 bs r)).2.cut = false from ok.1, show (nextF bs (realD2 bs r)).2.wrong = false from ok.2] at hc
    exact absurd hc (by decide)
  · rename_i hc
    have ok : Ok (nextF bs (realD2 bs r)).2 := by
      rw [Bool.or_eq_true, not_or, Bool.not_eq_true, Bool.not_eq_true] at hc
      exact hc
    obtain ⟨a1, a2, a3⟩ := ok_must (ok_next ok)
    obtain ⟨b1, b2, b3⟩ := ok_must (ok_next a1)
    rw [decide_eq_true_eq] at a2 b2
    have e2 : realD2 bs r = (nextF bs (realD1 bs r)).2 := a3
    have e1 : realD1 bs r = (nextF bs r).2 := b3
    have hr := next_range bs r
    have hrx := split_rex ((ands hr).2.1 b2)
    have h1 := h.next b1
    rw [e1] at a1 a2
    have h2 := h1.next a1
    rw [e2, e1] at ok ⊢
    have h3 := h2.next ok
    rw [a2] at h3
    refine realIn_dn (split_ok _) ?_
    rw [hrx]
    exact h3
/-! ### all of it -/
theorem insTwo_dn (h : Pre bs r [15]) : Dn bs (insTwo bs r) := by
  have hr := next_range bs r
  unfold insTwo
  split
  · rename_i hc
    refine Dn.mk fun ok => ?_
    have hk := h.next ok
    rw [hc] at hk
    exact ⟨_, rfl, I64_0, hk, rfl⟩
  split
  · rename_i _ hc
    refine Dn.mk fun ok => ?_
    have hk := h.next ok
    rw [hc] at hk
    exact ⟨_, rfl, I64_0, hk, rfl⟩
  split
  · rename_i _ _ hc
    refine Dn.mk fun ok => ?_
    have ok1 := ok_imm 4 ok
    have hk := h.next ok1
    have ho := (ands hr).2.2.2.2.2.1 hc
    refine ⟨_, valid_fl (f := 28) rfl R15 R15 (m16 _) rfl rfl rfl rfl rfl ?_, small_i64 immV4, hk.imm 4 ok, ?_⟩
    · exact sized_j4 (.inr rfl) rfl immV4
    · show 15 :: byteOf (128 + (nextF bs r).1 % 16) :: _ = _
      rw [← ho]; rfl
  · exact Dn.no
theorem insIn_dn {v : Int} (hv : 0 ≤ v ∧ v ≤ 255) (h : Pre bs r [byteOf v]) : Dn bs (insIn bs v r) := by
  have hA := ands hv
  unfold insIn
  split
  · rename_i hc
    intro ok
    have hm : Ok (mustF r (decide (andI v 2 = 0))) := ok_pref ok
    obtain ⟨m1, m2, m3⟩ := ok_must hm
    rw [decide_eq_true_eq] at m2
    have hrx := split_rex (hA.1 hc m2)
    rw [m3] at ok ⊢
    exact pref_dn (split_ok v) (by rw [hrx]; exact h) ok
  split
  · exact real_dn h
  split
  · rename_i _ _ hc
    refine Dn.mk fun ok => ?_
    have ho := hA.2.2.2.2.1 hc
    have hi := immV1 (bs := bs) (r := r)
    refine ⟨_, valid_fl (f := 28) rfl R15 R15 (m16 _) rfl rfl rfl rfl rfl ?_, by show I64 (immV bs _ 1); unfold I64; omega, h.imm 1 ok, ?_⟩
    · show (decide ((1 : Int) = 4) && smallF (immV bs r 1) || decide ((1 : Int) = 1) && inF (immV bs r 1) (-128) 127) = true
      rw [inF_of hi.1 hi.2]; rfl
    · show byteOf (112 + v % 16) :: _ = _
      rw [← ho]; rfl
  split
  · rename_i _ _ _ hc
    refine Dn.mk fun ok => ?_
    have hi := immV1 (bs := bs) (r := r)
    refine ⟨_, valid_fl (f := 20) rfl R15 R15 R15 rfl rfl rfl rfl rfl ?_, by show I64 (immV bs _ 1); unfold I64; omega, h.imm 1 ok, ?_⟩
    · show (decide ((1 : Int) = 4) && smallF (immV bs r 1) || decide ((1 : Int) = 1) && inF (immV bs r 1) (-128) 127) = true
      rw [inF_of hi.1 hi.2]; rfl
    · rw [hc]; rfl
  split
  · rename_i _ _ _ _ hc
    refine Dn.mk fun ok => ?_
    refine ⟨_, valid_fl (f := 20) rfl R15 R15 R15 rfl rfl rfl rfl rfl ?_, small_i64 immV4, h.imm 4 ok, ?_⟩
    · exact sized_j4 (.inl rfl) rfl immV4
    · rw [hc]; rfl
  split
  · rename_i _ _ _ _ _ hc
    refine Dn.mk fun ok => ?_
    refine ⟨_, valid_fl (f := 4) rfl R15 R15 R15 rfl rfl rfl rfl rfl immV4, small_i64 immV4, h.imm 4 ok, ?_⟩
    rw [hc]; rfl
  split
  · rename_i _ _ _ _ _ _ hc
    refine Dn.mk fun ok => ?_
    rw [hc] at h
    exact ⟨_, rfl, I64_0, h, rfl⟩
  split
  · rename_i _ _ _ _ _ _ _ hc
    rw [hc] at h
    exact insTwo_dn h
  · exact Dn.no
theorem ins_dn (bs : List UInt8) : Dn bs (insR bs rd0) := by
  unfold insR
  split
  · rename_i hc
    intro ok
    rw [show (nextF bs rd0).2.cut = false from ok.1] at hc
    exact absurd hc (by decide)
  · intro ok
    rename_i hc
    have ok1 : Ok (nextF bs rd0).2 := ⟨by rwa [Bool.not_eq_true] at hc, next_keeps bs rd0⟩
    exact insIn_dn (next_range bs rd0) ((Pre.start bs).next ok1) ok
/-- What is decoded is encoded as it stood. -/
theorem reads {bs : List UInt8} (h : decE bs = 0) : validF (decI bs) = true ∧ I64 (decI bs).imm ∧ encF (decI bs) = bs.take (decN bs) ∧ decN bs = (encF (decI bs)).length ∧ decN bs ≤ bs.length := by
  have hok : Ok (insR bs rd0).2 := by
    unfold decE at h
    split at h
    · exact absurd h (by decide)
    · split at h
      · exact absurd h (by decide)
      · rename_i h1 h2
        rw [Bool.not_eq_true] at h1 h2
        exact ⟨h2, h1⟩
  have hn : ¬ ((insR bs rd0).2.wrong = true ∨ (insR bs rd0).2.cut = true) := by
    rw [hok.1, hok.2]
    decide
  obtain ⟨h1, h2, h3⟩ := ins_dn bs hok
  have e1 : decI bs = (insR bs rd0).1 := if_neg hn
  have e2 : decN bs = (encF (insR bs rd0).1).length := by
    rw [decN, if_neg hn, h3.st]
  rw [e1, e2]
  exact ⟨h1, h2, h3.tk.symm, rfl, h3.le⟩
theorem reads_no {bs : List UInt8} (h : ¬ decE bs = 0) : decI bs = nilI ∧ decN bs = 0 ∧ (decE bs = 201 ∨ decE bs = 202) := by
  have hb : (insR bs rd0).2.wrong = true ∨ (insR bs rd0).2.cut = true := by
    unfold decE at h
    split at h
    · exact .inl (by assumption)
    · split at h
      · exact .inr (by assumption)
      · exact absurd rfl h
  refine ⟨if_pos hb, if_pos hb, ?_⟩
  unfold decE
  rcases hb with hb | hb
  · rw [if_pos hb]; exact .inl rfl
  · split
    · exact .inl rfl
    · exact .inr rfl
theorem reads_nil : decE [] = 202 := by decide
theorem reads_end {bs : List UInt8} (h : decE bs = 201 ∨ decE bs = 202) : (decide (nilI = nilI) && decide (((0 : Nat) : Int) = 0) && (decide (decE bs = 202) || decide (decE bs = 201)) && (decide (0 < (bs.length : Int)) || decide (decE bs = 202)) && true) = true := by
  have h0 : 0 < bs.length ∨ decE bs = 202 := by
    cases bs with
    | nil => exact .inr reads_nil
    | cons a t => exact .inl (Nat.succ_pos _)
  rcases h with h | h
  · rcases h0 with h0 | h0
    · simp [h, h0]
    · omega
  · simp [h]
end
end Go.Proofs.YtjndpakhmgapjaaDoor
