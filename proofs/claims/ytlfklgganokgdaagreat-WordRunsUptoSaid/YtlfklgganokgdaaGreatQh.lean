/-
  TEXTS JOINED: VPw, VDs, VDw, VWk13, VDl, VWk14, VDo, VWk15, VDr, VWk16, VDv, VWk17.
-/
import Derived.Test.YtlfklgganokgdaaGreatQg
set_option linter.unusedSimpArgs false
set_option linter.unusedVariables false
set_option linter.unusedSectionVars false
set_option linter.unnecessarySimpa false
set_option maxHeartbeats 64000000
namespace Go.Proofs.YtlfklgganokgdaaGreat.V
open Go Go.RowKit
abbrev Nm := List UInt8
abbrev Fl := List (Nm × List UInt8)
structure PW where
 files : Fl
 stdin : List UInt8
 opn : List Desc
 trace : List Evt
 deriving Inhabited
def absW (ws : WS) : PW := ⟨ws.files.map nb, ws.stdin, ws.opn, ws.trace⟩
def bl (a b : Nm) : Bool := Op.bytesLess a b
/-! ### the order of names -/
theorem bl_irrefl : ∀ a : Nm, bl a a = false
 | [] => rfl
 | x :: a => by
  show (decide (x < x) || ((x == x) && bl a a)) = false
  rw [bl_irrefl a]
  simp
theorem bl_trans : ∀ {a b c : Nm}, bl a b = true → bl b c = true → bl a c = true
 | [], [], c, h, _ => by cases h
 | [], y :: b, [], _, h => by cases h
 | [], y :: b, z :: c, _, _ => rfl
 | x :: a, [], c, h, _ => by cases h
 | x :: a, y :: b, [], _, h => by cases h
 | x :: a, y :: b, z :: c, h1, h2 => by
  have h1 : (decide (x < y) || ((x == y) && bl a b)) = true := h1
  have h2 : (decide (y < z) || ((y == z) && bl b c)) = true := h2
  show (decide (x < z) || ((x == z) && bl a c)) = true
  rw [Bool.or_eq_true, Bool.and_eq_true, decide_eq_true_eq, beq_iff_eq] at h1 h2 ⊢
  rcases h1 with h1 | ⟨h1, h3⟩ <;> rcases h2 with h2 | ⟨h2, h4⟩
  ·exact .inl (UInt8.lt_trans h1 h2)
  ·exact .inl (h2 ▸ h1)
  ·exact .inl (h1 ▸ h2)
  ·exact .inr ⟨h1.trans h2, bl_trans h3 h4⟩
theorem bl_total : ∀ {a b : Nm}, bl a b = false → bl b a = false → a = b
 | [], [], _, _ => rfl
 | [], y :: b, h, _ => by cases h
 | x :: a, [], _, h => by cases h
 | x :: a, y :: b, h1, h2 => by
  have h1 : (decide (x < y) || ((x == y) && bl a b)) = false := h1
  have h2 : (decide (y < x) || ((y == x) && bl b a)) = false := h2
  rw [Bool.or_eq_false_iff, decide_eq_false_iff_not] at h1 h2
  have hxy : x = y := by
   have a1 := h1.1
   have a2 := h2.1
   rw [UInt8.lt_iff_toNat_lt] at a1 a2
   exact UInt8.toNat_inj.1 (by omega)
  subst hxy
  have e1 : bl a b = false := by simpa using h1.2
  have e2 : bl b a = false := by simpa using h2.2
  rw [bl_total e1 e2]
theorem bl_not {a b : Nm} (h : bl a b = false) : a = b ∨ bl b a = true := by
 cases h2 : bl b a
 ·exact .inl (bl_total h h2)
 exact .inr rfl
def Srt (l : Fl) : Prop := l.Pairwise fun a b => bl a.1 b.1 = true
theorem Srt.nodup {l : Fl} (h : Srt l) : (l.map (·.1)).Nodup := by
 rw [List.Nodup, List.pairwise_map]
 exact h.imp fun {a b} hab e => by rw [e, bl_irrefl] at hab; cases hab
/-! ### files by name -/
def getP (name : Nm) : Fl → Option (List UInt8)
 | [] => none
 | x :: r => if x.1 = name then some x.2 else getP name r
def putP (name : Nm) (b : List UInt8) : Fl → Fl
 | [] => [(name, b)]
 | x :: r => if x.1 = name then (name, b) :: r else x :: putP name b r
theorem getP_none {name : Nm} : ∀ {l : Fl}, getP name l = none ↔ ∀ x ∈ l, ¬ x.1 = name
 | [] => by simp [getP]
 | x :: r => by
  rw [getP]
  by_cases h : x.1 = name
  ·rw [if_pos h]
   simp [h]
  ·rw [if_neg h, getP_none (l := r)]
   simp [h]
theorem getP_mem {name : Nm} {b : List UInt8} : ∀ {l : Fl}, getP name l = some b → (name, b) ∈ l
 | [], h => by cases h
 | x :: r, h => by
  rw [getP] at h
  by_cases hx : x.1 = name
  ·rw [if_pos hx, Option.some.injEq] at h
   rw [← h, ← hx]
   exact List.mem_cons_self ..
  ·rw [if_neg hx] at h
   exact List.mem_cons_of_mem _ (getP_mem h)
theorem mem_getP {name : Nm} {b : List UInt8} : ∀ {l : Fl}, (l.map (·.1)).Nodup → (name, b) ∈ l → getP name l = some b
 | [], _, h => by cases h
 | x :: r, hn, h => by
  rw [List.map_cons, List.nodup_cons] at hn
  rw [getP]
  rcases List.mem_cons.1 h with h | h
  ·rw [← h, if_pos rfl]
  ·rw [if_neg (fun e => hn.1 (by rw [e]; exact List.mem_map.2 ⟨_, h, rfl⟩)), mem_getP hn.2 h]
theorem getP_perm {name : Nm} {l l' : Fl} (hn : (l.map (·.1)).Nodup) (h : l.Perm l') : getP name l = getP name l' := by
 have hn' : (l'.map (·.1)).Nodup := (h.map (·.1)).nodup_iff.1 hn
 cases e : getP name l with
 | some b => exact (mem_getP hn' (h.subset (getP_mem e))).symm
 | none =>
  symm
  rw [getP_none] at e ⊢
  exact fun x hx => e x (h.symm.subset hx)
theorem putP_names {name : Nm} {b b' : List UInt8} : ∀ {l : Fl}, getP name l = some b' → (putP name b l).map (·.1) = l.map (·.1)
 | [], h => by cases h
 | x :: r, h => by
  rw [getP] at h
  rw [putP]
  by_cases hx : x.1 = name
  ·rw [if_pos hx, List.map_cons, List.map_cons, hx]
  ·rw [if_neg hx] at h
   rw [if_neg hx, List.map_cons, List.map_cons, putP_names h]
theorem putP_new {name : Nm} {b : List UInt8} : ∀ {l : Fl}, getP name l = none → putP name b l = l ++ [(name, b)]
 | [], _ => rfl
 | x :: r, h => by
  rw [getP] at h
  by_cases hx : x.1 = name
  ·rw [if_pos hx] at h; cases h
  ·rw [if_neg hx] at h
   rw [putP, if_neg hx, putP_new h]
   rfl
theorem mem_putP {name : Nm} {b : List UInt8} {x : Nm × List UInt8} : ∀ {l : Fl}, (l.map (·.1)).Nodup → (x ∈ putP name b l ↔ x = (name, b) ∨ (x ∈ l ∧ ¬ x.1 = name))
 | [], _ => by simp [putP]
 | y :: r, hn => by
  rw [List.map_cons, List.nodup_cons] at hn
  rw [putP]
  by_cases hy : y.1 = name
  ·rw [if_pos hy]
   constructor
   ·intro h
    rcases List.mem_cons.1 h with h | h
    ·exact .inl h
    ·exact .inr ⟨List.mem_cons_of_mem _ h, fun e => hn.1 (by rw [hy, ← e]; exact List.mem_map.2 ⟨x, h, rfl⟩)⟩
   ·rintro (h | ⟨h1, h2⟩)
    ·rw [h]; exact List.mem_cons_self ..
    ·rcases List.mem_cons.1 h1 with h | h
     ·exact absurd (h ▸ hy) h2
     ·exact List.mem_cons_of_mem _ h
  ·rw [if_neg hy, List.mem_cons, mem_putP hn.2, List.mem_cons]
   constructor
   ·rintro (h | h | ⟨h1, h2⟩)
    ·exact .inr ⟨.inl h, h ▸ hy⟩
    ·exact .inl h
    ·exact .inr ⟨.inr h1, h2⟩
   ·rintro (h | ⟨h1 | h1, h2⟩)
    ·exact .inr (.inl h)
    ·exact .inl h1
    ·exact .inr (.inr ⟨h1, h2⟩)
theorem putP_nodup {name : Nm} {b : List UInt8} {l : Fl} (hn : (l.map (·.1)).Nodup) : ((putP name b l).map (·.1)).Nodup := by
 cases e : getP name l with
 | some b' => rw [putP_names e]; exact hn
 | none =>
  rw [putP_new e, List.map_append, List.nodup_append]
  refine ⟨hn, by simp, fun p hp q hq => ?_⟩
  rw [getP_none] at e
  obtain ⟨x, hx, rfl⟩ := List.mem_map.1 hp
  simp only [List.map_cons, List.map_nil, List.mem_singleton] at hq
  rw [hq]
  exact e x hx
theorem nodup_of_map {l : Fl} (h : (l.map (·.1)).Nodup) : l.Nodup := by
 rw [List.Nodup, List.pairwise_map] at h
 exact h.imp fun {a b} hab e => hab (by rw [e])
theorem putP_perm {name : Nm} {b : List UInt8} {l l' : Fl} (hn : (l.map (·.1)).Nodup) (h : l.Perm l') : (putP name b l).Perm (putP name b l') := by
 have hn' : (l'.map (·.1)).Nodup := (h.map (·.1)).nodup_iff.1 hn
 rw [List.perm_ext_iff_of_nodup (nodup_of_map (putP_nodup hn)) (nodup_of_map (putP_nodup hn'))]
 intro x
 rw [mem_putP hn, mem_putP hn']
 constructor
 ·rintro (h1 | ⟨h1, h2⟩)
  ·exact .inl h1
  exact .inr ⟨h.subset h1, h2⟩
 rintro (h1 | ⟨h1, h2⟩)
 ·exact .inl h1
 exact .inr ⟨h.symm.subset h1, h2⟩
theorem putP_srt {name : Nm} {b b' : List UInt8} {l : Fl} (hs : Srt l) (h : getP name l = some b') : Srt (putP name b l) := by
 have e := putP_names (b := b) h
 have : (l.map (·.1)).Pairwise fun a b => bl a b = true := by rw [List.pairwise_map]; exact hs
 rw [← e, List.pairwise_map] at this
 exact this
structure Laid (x : Nm × List UInt8) (l l' : Fl) : Prop where
 is : ∃ i, i ≤ l.length ∧ l' = l.take i ++ x :: l.drop i ∧ (∀ y ∈ l.drop i, bl x.1 y.1 = true) ∧ (i = 0 ∨ bl x.1 (l.getD (i - 1) default).1 = false)
theorem laid_srt {x : Nm × List UInt8} {l l' : Fl} (hs : Srt l) (hx : getP x.1 l = none) (h : Laid x l l') : Srt l' ∧ (putP x.1 x.2 l).Perm l' := by
 obtain ⟨i, hi, rfl, h1, h2⟩ := h.is
 rw [getP_none] at hx
 have hsp : Srt (l.take i ++ l.drop i) := by rw [List.take_append_drop]; exact hs
 rw [Srt, List.pairwise_append] at hsp
 refine ⟨?_, ?_⟩
 ·rw [Srt, List.pairwise_append, List.pairwise_cons]
  have hb : ∀ a ∈ l.take i, bl a.1 x.1 = true := by
   intro a ha
   rcases h2 with h2 | h2
   ·rw [h2] at ha; simp at ha
   ·have hpos : 0 < i := by
     rcases Nat.eq_zero_or_pos i with e | e
     ·rw [e] at ha; simp at ha
     ·exact e
    have hlast : (l.getD (i - 1) default) ∈ l := by rw [getD_eq' (by omega)]; exact List.getElem_mem _
    have hl : bl (l.getD (i - 1) default).1 x.1 = true := (bl_not h2).resolve_left (fun e => hx _ hlast e.symm)
    obtain ⟨k, hk, rfl⟩ := List.mem_iff_getElem.1 ha
    rw [List.length_take] at hk
    rw [List.getElem_take]
    rcases Nat.lt_or_ge k (i - 1) with hlt | hge
    ·have := List.pairwise_iff_getElem.1 hs k (i - 1) (by omega) (by omega) hlt
     rw [getD_eq' (by omega)] at hl
     exact bl_trans this hl
    ·have : k = i - 1 := by omega
     subst this
     rw [getD_eq' (by omega)] at hl
     exact hl
  refine ⟨hsp.1, ⟨h1, hsp.2.1⟩, fun a ha c hc => ?_⟩
  rcases List.mem_cons.1 hc with hc | hc
  ·rw [hc]; exact hb a ha
  exact hsp.2.2 a ha c hc
 rw [putP_new (getP_none.2 hx)]
 have e : (l.take i ++ x :: l.drop i).Perm (l.take i ++ (l.drop i ++ [x])) := List.Perm.append_left _ (List.perm_append_singleton x _).symm
 rw [← List.append_assoc, List.take_append_drop] at e
 exact e.symm
/-! ### what the calls do -/
def badN (name : Nm) : Bool := name.any fun c => decide (c = 0)
theorem idx_bad : ∀ name : Nm, (0 ≤ Lib.indexByte name 0) ↔ badN name = true
 | [] => by simp [Lib.indexByte, badN]
 | c :: r => by
  have ih := idx_bad r
  have hge := Lib.indexByte_ge r 0
  unfold badN at ih ⊢
  rw [List.any_cons, Bool.or_eq_true, decide_eq_true_eq, ← ih]
  rw [Lib.indexByte]
  simp only [beq_iff_eq]
  by_cases hc : c = 0
  ·rw [if_pos hc]
   exact ⟨fun _ => .inl hc, fun _ => Int.le_refl _⟩
  ·rw [if_neg hc]
   constructor
   ·intro h
    right
    split at h
    ·omega
    ·omega
   ·rintro (h | h)
    ·exact absurd h hc
    ·rw [if_neg (by omega)]
     omega
def openV (name : Nm) (flags : Int) (p : PW) : Int :=
 if 255 < name.length then -36 else if (flags ≠ 0 ∧ flags ≠ 577) ∨ badN name = true then -22 else if name = [] then -2 else if flags = 0 ∧ getP name p.files = none then -2 else if freeIx p.opn < 19 then freeIx p.opn else -24
def openP (name : Nm) (flags : Int) (p : PW) : PW :=
 if openV name flags p < 0 then p else if flags = 577 then
  { p with opn := p.opn.set (freeIx p.opn) ⟨5, name, 0⟩, files := putP name [] p.files, trace := p.trace ++ [⟨3, name, []⟩] }
 else { p with opn := p.opn.set (freeIx p.opn) ⟨4, name, 0⟩ }
def kindP (fd : Int) (p : PW) : Int := if fd < 0 ∨ 19 ≤ fd then 0 else (p.opn.getD fd.toNat default).kind
def readV (fd : Int) (n : Int) (p : PW) : List UInt8 × Int :=
 if kindP fd p = 1 then (p.stdin.take n.toNat, ((p.stdin.take n.toNat).length : Int))
 else if kindP fd p = 4 then
  let b := (((getP (p.opn.getD fd.toNat default).name p.files).getD []).drop (p.opn.getD fd.toNat default).place).take n.toNat
  (b, (b.length : Int))
 else ([], -9)
def readP (fd : Int) (n : Int) (p : PW) : PW :=
 if kindP fd p = 1 then { p with stdin := p.stdin.drop n.toNat }
 else if kindP fd p = 4 then { p with opn := p.opn.set fd.toNat { p.opn.getD fd.toNat default with place := (p.opn.getD fd.toNat default).place + ((((getP (p.opn.getD fd.toNat default).name p.files).getD []).drop (p.opn.getD fd.toNat default).place).take n.toNat).length } }
 else p
def writeV (fd : Int) (s : List UInt8) (p : PW) : Int := if kindP fd p = 2 ∨ kindP fd p = 3 ∨ kindP fd p = 5 then (s.length : Int) else -9
def writeP (fd : Int) (s : List UInt8) (p : PW) : PW :=
 if kindP fd p = 2 then { p with trace := sayF 1 [] s p.trace }
 else if kindP fd p = 3 then { p with trace := sayF 2 [] s p.trace }
 else if kindP fd p = 5 then
  (if s = [] then p else { p with
   files := putP (p.opn.getD fd.toNat default).name (writeAt ((getP (p.opn.getD fd.toNat default).name p.files).getD []) (p.opn.getD fd.toNat default).place s) p.files,
   opn := p.opn.set fd.toNat { p.opn.getD fd.toNat default with place := (p.opn.getD fd.toNat default).place + s.length },
   trace := sayF 3 (p.opn.getD fd.toNat default).name s p.trace })
 else p
def closeV (fd : Int) (p : PW) : Int := if kindP fd p = 0 then -9 else 0
def closeP (fd : Int) (p : PW) : PW := if kindP fd p = 0 then p else { p with opn := p.opn.set fd.toNat ⟨0, [], 0⟩ }
/-! ### side by side -/
structure Side (r d : PW) : Prop where
 stdin : d.stdin = r.stdin
 opn : d.opn = r.opn
 trace : d.trace = r.trace
 files : r.files.Perm d.files
 srt : Srt d.files
theorem Side.nodup {r d : PW} (h : Side r d) : (r.files.map (·.1)).Nodup := (h.files.map (·.1)).nodup_iff.2 h.srt.nodup
theorem Side.get {r d : PW} (h : Side r d) (name : Nm) : getP name d.files = getP name r.files := (getP_perm h.nodup h.files).symm
theorem Side.kind {r d : PW} (h : Side r d) (fd : Int) : kindP fd d = kindP fd r := by unfold kindP; rw [h.opn]
theorem Side.openV {r d : PW} (h : Side r d) (name : Nm) (flags : Int) : openV name flags d = openV name flags r := by unfold Go.Proofs.YtlfklgganokgdaaGreat.V.openV; rw [h.opn, h.get]
theorem Side.readV {r d : PW} (h : Side r d) (fd n : Int) : readV fd n d = readV fd n r := by unfold Go.Proofs.YtlfklgganokgdaaGreat.V.readV; rw [h.kind, h.stdin, h.opn, h.get]
theorem Side.writeV {r d : PW} (h : Side r d) (fd : Int) (s : List UInt8) : writeV fd s d = writeV fd s r := by unfold Go.Proofs.YtlfklgganokgdaaGreat.V.writeV; rw [h.kind]
theorem Side.closeV {r d : PW} (h : Side r d) (fd : Int) : closeV fd d = closeV fd r := by unfold Go.Proofs.YtlfklgganokgdaaGreat.V.closeV; rw [h.kind]
theorem Side.read {r d : PW} (h : Side r d) (fd n : Int) : Side (readP fd n r) (readP fd n d) := by
 unfold readP
 rw [h.kind, h.stdin, h.opn, h.get]
 split
 ·exact ⟨rfl, rfl, h.trace, h.files, h.srt⟩
 split
 ·exact ⟨rfl, rfl, h.trace, h.files, h.srt⟩
 exact h
theorem Side.close {r d : PW} (h : Side r d) (fd : Int) : Side (closeP fd r) (closeP fd d) := by
 unfold closeP
 rw [h.kind, h.opn]
 split
 ·exact h
 exact ⟨h.stdin, rfl, h.trace, h.files, h.srt⟩
def Named (p : PW) : Prop := p.opn.length = 19 ∧ ∀ d ∈ p.opn, (d.kind = 4 ∨ d.kind = 5) → (getP d.name p.files).isSome = true
theorem Side.write {r d : PW} (h : Side r d) (hn : Named r) (fd : Int) (s : List UInt8) : Side (writeP fd s r) (writeP fd s d) := by
 unfold writeP
 rw [h.kind, h.trace, h.opn, h.get]
 split
 ·exact ⟨h.stdin, rfl, rfl, h.files, h.srt⟩
 split
 ·exact ⟨h.stdin, rfl, rfl, h.files, h.srt⟩
 split
 ·rename_i hk
  split
  ·exact h
  have hi : ¬ (fd < 0 ∨ 19 ≤ fd) := by
   intro q
   unfold kindP at hk
   rw [if_pos q] at hk
   exact absurd hk (by decide)
  have hlt : fd.toNat < r.opn.length := by have := hn.1; omega
  have hd : (r.opn.getD fd.toNat default).kind = 5 := by unfold kindP at hk; rwa [if_neg hi] at hk
  have hm : r.opn.getD fd.toNat default ∈ r.opn := by rw [getD_eq' hlt]; exact List.getElem_mem _
  obtain ⟨b, hb⟩ := Option.isSome_iff_exists.1 (hn.2 _ hm (.inr hd))
  exact ⟨h.stdin, rfl, rfl, putP_perm h.nodup h.files, putP_srt h.srt (by rw [h.get]; exact hb)⟩
 exact h
/-! ### names stay named -/
theorem getP_put {name m : Nm} {b : List UInt8} : ∀ {l : Fl}, (getP m (putP name b l)).isSome = ((getP m l).isSome || decide (m = name))
 | [] => by
  unfold putP getP getP
  by_cases h : name = m
  ·simp [h, getP]
  ·simp [h, getP, Ne.symm h]
 | x :: r => by
  rw [putP]
  by_cases hx : x.1 = name
  ·rw [if_pos hx, getP, getP]
   by_cases h : name = m
   ·simp [h, hx]
   ·have : ¬ x.1 = m := fun e => h (hx ▸ e)
    simp [h, this, Ne.symm h]
  ·rw [if_neg hx, getP, getP]
   by_cases h : x.1 = m
   ·simp [h]
   ·rw [if_neg h, if_neg h, getP_put]
theorem named_set {p : PW} (h : Named p) {j : Nat} {d : Desc} (hd : (d.kind = 4 ∨ d.kind = 5) → (getP d.name p.files).isSome = true) : Named { p with opn := p.opn.set j d } := by
 refine ⟨by rw [List.length_set]; exact h.1, fun x hx => ?_⟩
 rcases List.mem_or_eq_of_mem_set hx with hx | rfl
 ·exact h.2 x hx
 exact hd
theorem named_close {p : PW} (h : Named p) (fd : Int) : Named (closeP fd p) := by
 unfold closeP
 split
 ·exact h
 exact named_set h (fun q => by simp at q)
theorem kind_in {p : PW} {fd : Int} (h : Named p) (hk : ¬ kindP fd p = 0) : 0 ≤ fd ∧ fd < 19 ∧ fd.toNat < p.opn.length ∧ p.opn.getD fd.toNat default ∈ p.opn ∧ kindP fd p = (p.opn.getD fd.toNat default).kind := by
 unfold kindP at hk ⊢
 by_cases q : fd < 0 ∨ 19 ≤ fd
 ·rw [if_pos q] at hk; exact absurd rfl hk
 rw [if_neg q]
 have hl := h.1
 refine ⟨by omega, by omega, by omega, ?_, rfl⟩
 rw [getD_eq' (by omega)]
 exact List.getElem_mem _
theorem named_read {p : PW} (h : Named p) (fd n : Int) : Named (readP fd n p) := by
 unfold readP
 split
 ·exact h
 split
 ·rename_i hk
  obtain ⟨_, _, _, hm, he⟩ := kind_in h (fd := fd) (by rw [hk]; decide)
  exact named_set h (fun q => h.2 (p.opn.getD fd.toNat default) hm q)
 exact h
theorem named_write {p : PW} (h : Named p) (fd : Int) (s : List UInt8) : Named (writeP fd s p) := by
 unfold writeP
 split
 ·exact h
 split
 ·exact h
 split
 ·rename_i hk
  split
  ·exact h
  obtain ⟨_, _, _, hm, he⟩ := kind_in h (fd := fd) (by rw [hk]; decide)
  refine ⟨by show (p.opn.set _ _).length = 19; rw [List.length_set]; exact h.1, fun x hx q => ?_⟩
  show (getP x.name (putP _ _ p.files)).isSome = true
  rw [getP_put]
  rcases List.mem_or_eq_of_mem_set hx with hx | rfl
  ·rw [h.2 x hx q]; rfl
  simp
 exact h
theorem named_open {p : PW} (h : Named p) (name : Nm) (flags : Int) : Named (openP name flags p) := by
 unfold openP
 split
 ·exact h
 rename_i hv
 split
 ·refine ⟨by show (p.opn.set _ _).length = 19; rw [List.length_set]; exact h.1, fun x hx q => ?_⟩
  show (getP x.name (putP _ _ p.files)).isSome = true
  rw [getP_put]
  rcases List.mem_or_eq_of_mem_set hx with hx | rfl
  ·rw [h.2 x hx q]; rfl
  simp
 rename_i hf
 refine named_set h (fun _ => ?_)
 show (getP name p.files).isSome = true
 unfold openV at hv
 split at hv
 ·exact absurd (by decide) hv
 split at hv
 ·exact absurd (by decide) hv
 split at hv
 ·exact absurd (by decide) hv
 split at hv
 ·exact absurd (by decide) hv
 rename_i h1 h2 h3 h4
 cases e : getP name p.files with
 | some b => rfl
 | none => exact absurd ⟨by omega, e⟩ h4
structure DS where
 files : List FileR
 lA : Option Addr
 lc : Nat
 stdin : List UInt8
 opn : List Desc
 dA : Option Addr
 dc : Nat
 trace : List Evt
 tA : Option Addr
 tc : Nat
 deriving Inhabited
def pl (ds : DS) : PW := ⟨ds.files.map nb, ds.stdin, ds.opn, ds.trace⟩
def fileCells (f : FileR) : List T := [sv f.name, .v (.slice f.A f.bytes.length f.c)]
def dCells (ds : DS) : List T := [.v (.slice ds.lA ds.files.length ds.lc), sv ds.stdin, .v (.slice ds.dA ds.opn.length ds.dc), .v (.slice ds.tA ds.trace.length ds.tc)]
def DSt (b : Nat) (ds : DS) : St := .box b 115 (dCells ds) :: .row ds.lA ds.files.length ds.lc 163 2 (ds.files.flatMap fileCells) :: .row ds.dA ds.opn.length ds.dc 137 3 (ds.opn.flatMap descCells) :: .row ds.tA ds.trace.length ds.tc 149 3 (ds.trace.flatMap evCells) :: ds.files.map fileRow
theorem fck (f : FileR) : (fileCells f).length = 2 := rfl
theorem len_files {l : List FileR} : (l.flatMap fileCells).length = l.length * 2 := len_flat fck l
theorem fnm_at {l : List FileR} {j : Nat} (h : j < l.length) : (l.flatMap fileCells)[j * 2 + 0]? = some (sv (l.getD j default).name) := flat_at fck h 0 (by decide)
theorem fby_at {l : List FileR} {j : Nat} (h : j < l.length) : (l.flatMap fileCells)[j * 2 + 1]? = some (.v (.slice (l.getD j default).A (l.getD j default).bytes.length (l.getD j default).c)) := flat_at fck h 1 (by decide)
theorem dkd_at {l : List Desc} {j : Nat} (h : j < l.length) : (l.flatMap descCells)[j * 3 + 0]? = some (.v (.int .i64 (l.getD j default).kind)) := flat_at dk h 0 (by decide)
theorem dnm_at {l : List Desc} {j : Nat} (h : j < l.length) : (l.flatMap descCells)[j * 3 + 1]? = some (sv (l.getD j default).name) := flat_at dk h 1 (by decide)
theorem dpl_at {l : List Desc} {j : Nat} (h : j < l.length) : (l.flatMap descCells)[j * 3 + 2]? = some (.v (.int .i64 ((l.getD j default).place : Int))) := flat_at dk h 2 (by decide)
theorem flat_set1 {α : Type} [Inhabited α] {f : α → List T} {k : Nat} (hk : ∀ a, (f a).length = k) {l : List α} {j : Nat} (h : j < l.length) (i : Nat) (v : T) (a' : α) (hin : i + 1 ≤ k) (he : f a' = (f (l.getD j default)).take i ++ [v] ++ (f (l.getD j default)).drop (i + 1)) :
    (l.flatMap f).set (j * k + i) v = (l.set j a').flatMap f := by
 have e := flat_set hk h i 1 [v] a' hin he
 have hlt : j * k + i < (l.flatMap f).length := by
  rw [len_flat hk]
  have := Nat.mul_le_mul_right k (show j + 1 ≤ l.length by omega)
  rw [Nat.add_mul, Nat.one_mul] at this
  omega
 rw [← e, List.set_eq_take_append_cons_drop, if_pos hlt, List.append_assoc]
 rfl
theorem dset_place {l : List Desc} {j : Nat} (h : j < l.length) (p : Nat) : (l.flatMap descCells).set (j * 3 + 2) (.v (.int .i64 (p : Int))) = (l.set j { l.getD j default with place := p }).flatMap descCells := flat_set1 dk h 2 _ _ (by decide) rfl
theorem dset_all {l : List Desc} {j : Nat} (h : j < l.length) (d : Desc) : (l.flatMap descCells).take (j * 3) ++ descCells d ++ (l.flatMap descCells).drop (j * 3 + 3) = (l.set j d).flatMap descCells := by
 have e := flat_set dk h 0 3 (descCells d) d (by decide) rfl
 exact e
theorem fset_bytes {l : List FileR} {j : Nat} (h : j < l.length) (A : Option Addr) (b : List UInt8) (c : Nat) : (l.flatMap fileCells).set (j * 2 + 1) (.v (.slice A b.length c)) = (l.set j ⟨(l.getD j default).name, b, A, c⟩).flatMap fileCells := flat_set1 fck h 1 _ _ (by decide) rfl
theorem fset_all {l : List FileR} {j : Nat} (h : j < l.length) (f : FileR) : (l.flatMap fileCells).take (j * 2) ++ fileCells f ++ (l.flatMap fileCells).drop (j * 2 + 2) = (l.set j f).flatMap fileCells := by
 have e := flat_set fck h 0 2 (fileCells f) f (by decide) rfl
 exact e
def findP (name : Nm) (l : Fl) : Int := match l.findIdx? (fun x => decide (x.1 = name)) with | some i => (i : Int) | none => -1
theorem findP_yes {name : Nm} {l : Fl} {j : Nat} (hj : j < l.length) (hb : ∀ i, i < j → ¬ (l.getD i default).1 = name) (h : (l.getD j default).1 = name) : findP name l = (j : Int) := by
 have : l.findIdx? (fun x => decide (x.1 = name)) = some j := by
  rw [List.findIdx?_eq_some_iff_getElem]
  refine ⟨hj, ?_, fun i hi => ?_⟩
  ·rw [getD_eq' hj] at h
   simpa using h
  ·have := hb i hi
   rw [getD_eq' (by omega)] at this
   simpa using this
 unfold findP
 rw [this]
theorem findP_no {name : Nm} {l : Fl} (hb : ∀ i, i < l.length → ¬ (l.getD i default).1 = name) : findP name l = -1 ∧ getP name l = none := by
 have hm : ∀ x ∈ l, ¬ x.1 = name := by
  intro x hx
  obtain ⟨i, hi, rfl⟩ := List.mem_iff_getElem.1 hx
  have := hb i hi
  rwa [getD_eq' hi] at this
 have : l.findIdx? (fun x => decide (x.1 = name)) = none := by
  rw [List.findIdx?_eq_none_iff]
  intro x hx
  simpa using hm x hx
 refine ⟨?_, getP_none.2 hm⟩
 unfold findP
 rw [this]
theorem findP_get {name : Nm} : ∀ {l : Fl}, (findP name l = -1 ∧ getP name l = none) ∨ ∃ j : Nat, findP name l = (j : Int) ∧ j < l.length ∧ (l.getD j default).1 = name ∧ getP name l = some (l.getD j default).2 ∧ ∀ b, putP name b l = l.set j (name, b)
 | [] => .inl ⟨rfl, rfl⟩
 | x :: r => by
  by_cases h : x.1 = name
  ·refine .inr ⟨0, ?_, by simp, by simpa using h, by rw [getP, if_pos h]; rfl, fun b => by rw [putP, if_pos h]; rfl⟩
   exact findP_yes (by simp) (fun i hi => by omega) (by simpa using h)
  ·rcases findP_get (name := name) (l := r) with ⟨h1, h2⟩ | ⟨j, h1, h2, h3, h4, h5⟩
   ·left
    refine ⟨?_, by rw [getP, if_neg h]; exact h2⟩
    rw [getP_none] at h2
    refine (findP_no fun i hi => ?_).1
    cases i with
    | zero => simpa using h
    | succ i =>
     have hi' : i < r.length := by simpa using hi
     rw [List.getD_cons_succ, getD_eq' hi']
     exact h2 _ (List.getElem_mem _)
   ·right
    refine ⟨j + 1, ?_, by simpa using h2, by rw [List.getD_cons_succ]; exact h3, by rw [getP, if_neg h, List.getD_cons_succ]; exact h4, fun b => by rw [putP, if_neg h, h5]; rfl⟩
    have hn : ∀ i : Nat, i < j → ¬ (r.getD i default).1 = name := by
     intro i hi e
     unfold findP at h1
     split at h1
     ·rename_i k hk
      rw [List.findIdx?_eq_some_iff_getElem] at hk
      obtain ⟨hk1, _, hk3⟩ := hk
      have hkj : k = j := by omega
      have := hk3 i (by omega)
      rw [getD_eq' (by omega)] at e
      simp [e] at this
     ·omega
    refine findP_yes (by simpa using h2) (fun i hi => ?_) (by rw [List.getD_cons_succ]; exact h3)
    cases i with
    | zero => simpa using h
    | succ i => rw [List.getD_cons_succ]; exact hn i (by omega)
theorem nb_at {l : List FileR} {j : Nat} (h : j < l.length) : (l.map nb).getD j default = nb (l.getD j default) := by
 rw [getD_eq' (by rw [List.length_map]; exact h), getD_eq' h, List.getElem_map]
theorem bad_yes {s : Nm} {j : Nat} (hj : j < s.length) (h : s.getD j 0 = 0) : badN s = true := by
 unfold badN
 rw [List.any_eq_true]
 refine ⟨s[j], List.getElem_mem hj, ?_⟩
 rw [List.getD_eq_getElem?_getD, List.getElem?_eq_getElem hj] at h
 simpa using h
theorem bad_no {s : Nm} (h : ∀ i, i < s.length → ¬ s.getD i 0 = 0) : badN s = false := by
 unfold badN
 rw [List.any_eq_false]
 intro x hx
 obtain ⟨i, hi, rfl⟩ := List.mem_iff_getElem.1 hx
 have := h i hi
 rw [List.getD_eq_getElem?_getD, List.getElem?_eq_getElem hi] at this
 simpa using this
theorem u8z {c : UInt8} : ((c.toNat : Int) = 0) ↔ c = 0 := by
 constructor
 ·intro h; exact UInt8.toNat_inj.1 (by simpa using h)
 rintro rfl; rfl
/-! ### opening, for the document -/
structure DOpen (name : Nm) (flags : Int) (p p' : PW) : Prop where
 is : (openV name flags p < 0 ∧ p' = p) ∨ (¬ openV name flags p < 0 ∧ ¬ flags = 577 ∧ p' = openP name flags p) ∨
  (¬ openV name flags p < 0 ∧ flags = 577 ∧ p'.opn = p.opn.set (freeIx p.opn) ⟨5, name, 0⟩ ∧ p'.stdin = p.stdin ∧ p'.trace = p.trace ++ [⟨3, name, []⟩] ∧
   ((∃ b, getP name p.files = some b) ∧ p'.files = putP name [] p.files ∨ getP name p.files = none ∧ Laid (name, []) p.files p'.files))
theorem Side.openD {r d d' : PW} {name : Nm} {flags : Int} (h : Side r d) (ho : DOpen name flags d d') : Side (openP name flags r) d' := by
 have hv := h.openV name flags
 rcases ho.is with ⟨h1, rfl⟩ | ⟨h1, h2, rfl⟩ | ⟨h1, h2, h3, h4, h5, h6⟩
 ·unfold openP
  rw [if_pos (by rw [← hv]; exact h1)]
  exact h
 ·unfold openP
  rw [hv] at h1 ⊢
  rw [if_neg h1, if_neg h1, if_neg h2, if_neg h2]
  exact ⟨h.stdin, by rw [h.opn], h.trace, h.files, h.srt⟩
 unfold openP
 rw [hv] at h1
 rw [if_neg h1, if_pos h2]
 refine ⟨by rw [h4]; exact h.stdin, by rw [h3, h.opn], by rw [h5, h.trace], ?_, ?_⟩
 ·rcases h6 with ⟨⟨b, hb⟩, e⟩ | ⟨hb, hl⟩
  ·rw [e]
   exact putP_perm h.nodup h.files
  exact (putP_perm h.nodup h.files).trans (laid_srt h.srt hb hl).2
 rcases h6 with ⟨⟨b, hb⟩, e⟩ | ⟨hb, hl⟩
 ·rw [e]
  exact putP_srt h.srt hb
 exact (laid_srt h.srt hb hl).1
/-! ### bounds -/
structure PB (n : Nat) (p : PW) : Prop where
 opn : p.opn.length = 19
 tr : p.trace.length ≤ n
 txt : ∀ e ∈ p.trace, e.text.length ≤ n
 fl : ∀ f ∈ p.files, f.2.length ≤ n
 pl : ∀ d ∈ p.opn, d.place ≤ n
 sin : p.stdin.length ≤ n
 nf : p.files.length ≤ n
theorem nfl_of {n : Nat} {ds : DS} (h : PB n (pl ds)) : ds.files.length ≤ n := by
 have := h.nf
 unfold pl at this
 rwa [List.length_map] at this
theorem ext_getD {l m : List UInt8} (hl : l.length = m.length) (h : ∀ k, l.getD k 0 = m.getD k 0) : l = m := by
 apply List.ext_getElem hl
 intro k h1 h2
 have := h k
 rwa [List.getD_eq_getElem?_getD, List.getD_eq_getElem?_getD, List.getElem?_eq_getElem h1, List.getElem?_eq_getElem h2] at this
theorem getD_app (a b : List UInt8) (k : Nat) : (a ++ b).getD k 0 = if k < a.length then a.getD k 0 else b.getD (k - a.length) 0 := by
 rw [List.getD_eq_getElem?_getD, List.getD_eq_getElem?_getD, List.getD_eq_getElem?_getD]
 split
 ·rename_i h
  rw [List.getElem?_append_left h]
 rename_i h
 rw [List.getElem?_append_right (by omega)]
theorem getD_rep (n k : Nat) : (List.replicate n (0 : UInt8)).getD k 0 = 0 := by
 rw [List.getD_eq_getElem?_getD, List.getElem?_replicate]
 split <;> rfl
theorem getD_far {l : List UInt8} {k : Nat} (h : l.length ≤ k) : l.getD k 0 = 0 := by
 rw [List.getD_eq_getElem?_getD, List.getElem?_eq_none h]
 rfl
theorem padTo_get (l : List UInt8) (n k : Nat) : (padTo l n).getD k 0 = l.getD k 0 := by
 unfold padTo
 rw [getD_app]
 split
 ·rfl
 rw [getD_rep, getD_far (by omega)]
theorem getD_take (l : List UInt8) (n k : Nat) : (l.take n).getD k 0 = if k < n then l.getD k 0 else 0 := by
 rw [List.getD_eq_getElem?_getD, List.getD_eq_getElem?_getD, List.getElem?_take]
 split <;> rfl
theorem getD_drop (l : List UInt8) (n k : Nat) : (l.drop n).getD k 0 = l.getD (n + k) 0 := by
 rw [List.getD_eq_getElem?_getD, List.getD_eq_getElem?_getD, List.getElem?_drop]
theorem writeAt_get (l : List UInt8) (p : Nat) (s : List UInt8) (k : Nat) : (writeAt l p s).getD k 0 = if k < p then l.getD k 0 else if k < p + s.length then s.getD (k - p) 0 else l.getD k 0 := by
 have hl := padTo_len l (p + s.length)
 have ht : ((padTo l (p + s.length)).take p).length = p := by rw [List.length_take]; omega
 unfold writeAt
 rw [getD_app, List.length_append, ht]
 by_cases h1 : k < p
 ·rw [if_pos (by omega), if_pos h1, getD_app, ht, if_pos h1, getD_take, if_pos h1, padTo_get]
 rw [if_neg h1]
 by_cases h2 : k < p + s.length
 ·rw [if_pos h2, if_pos h2, getD_app, ht, if_neg h1]
 rw [if_neg h2, if_neg h2, getD_drop, padTo_get, show p + s.length + (k - (p + s.length)) = k by omega]
def wr (l : List UInt8) (p : Nat) (s : List UInt8) : List UInt8 := if s = [] then l else writeAt l p s
theorem wr_get (l : List UInt8) (p : Nat) (s : List UInt8) (k : Nat) : (wr l p s).getD k 0 = if k < p then l.getD k 0 else if k < p + s.length then s.getD (k - p) 0 else l.getD k 0 := by
 unfold wr
 split
 ·rename_i h
  subst h
  rw [List.length_nil]
  by_cases h1 : k < p
  ·rw [if_pos h1]
  rw [if_neg h1, if_neg (by omega)]
 exact writeAt_get l p s k
theorem wr_len (l : List UInt8) (p : Nat) (s : List UInt8) : (wr l p s).length = if s = [] then l.length else max l.length (p + s.length) := by
 unfold wr
 split
 ·rfl
 exact writeAt_len l p s
theorem getD_set' (l : List UInt8) (i k : Nat) (c : UInt8) : (l.set i c).getD k 0 = if i = k ∧ k < l.length then c else l.getD k 0 := by
 rw [List.getD_eq_getElem?_getD, List.getD_eq_getElem?_getD, List.getElem?_set]
 by_cases h : i = k
 ·subst h
  rw [if_pos rfl]
  by_cases h2 : i < l.length
  ·rw [if_pos h2, if_pos ⟨rfl, h2⟩]; rfl
  rw [if_neg h2, if_neg (fun q => h2 q.2), List.getElem?_eq_none (by omega)]
 rw [if_neg h, if_neg (fun q => h q.1)]
theorem wr_step (l : List UInt8) (p : Nat) (t : List UInt8) (c : UInt8) : (padTo (wr l p t) (p + t.length + 1)).set (p + t.length) c = wr l p (t ++ [c]) := by
 have hpl := padTo_len (wr l p t) (p + t.length + 1)
 have hwl := wr_len l p t
 have hw2 := wr_len l p (t ++ [c])
 rw [if_neg (by simp), List.length_append] at hw2
 have hl1 : ([c] : List UInt8).length = 1 := rfl
 apply ext_getD
 ·rw [List.length_set, hpl, hw2]
  rw [hwl]
  split
  ·rename_i h
   subst h
   simp only [List.length_nil]
   omega
  omega
 intro k
 rw [getD_set', padTo_get, wr_get, wr_get, List.length_append, hl1, hpl]
 by_cases h1 : p + t.length = k
 ·rw [if_pos ⟨h1, by omega⟩, if_neg (by omega), if_pos (by omega), getD_app, if_neg (by omega), show k - p - t.length = 0 by omega]
  rfl
 rw [if_neg (fun q => h1 q.1)]
 by_cases h2 : k < p
 ·rw [if_pos h2, if_pos h2]
 rw [if_neg h2, if_neg h2]
 by_cases h3 : k < p + t.length
 ·rw [if_pos h3, if_pos (by omega), getD_app, if_pos (by omega)]
 rw [if_neg h3, if_neg (by omega)]
theorem wr_nil (l : List UInt8) (p : Nat) : wr l p [] = l := if_pos rfl
theorem wr_cons {l : List UInt8} {p : Nat} {s : List UInt8} (h : ¬ s = []) : wr l p s = writeAt l p s := if_neg h

theorem zero55 (s : List UInt8) (hl : s.length ≤ 1099511627776) :
    ACalls Tryz.prog 81 [sv s] [] fun t S => t = .v (.bool (badN s)) := by
 refine ai Tryz.func81 Tryz.ntmps81 fun X w0 => ?_
 refine rs (y1 ?_)
 refine nl (sq (rs (y1 ?_)))
 refine nl (bk ?_)
 refine lp1 (fun (j : Nat) => [(0, true, sv s), (3, true, zv j)]) (fun (j : Nat) => []) (fun (j : Nat) => j ≤ s.length ∧ ∀ i, i < j → ¬ s.getD i 0 = 0) (fun (j : Nat) => s.length - j) 0 ?_ ?_
 ·exact ⟨Nat.zero_le _, fun i hi => by omega⟩
 ·
  intro j hinv
  obtain ⟨hj, hpre⟩ := hinv
  refine sq (rs (y4 (nl ?_)))
  refine cq (fun _ => ?_) fun _ => ?_
  ·
   refine sp (sq (bk (rs (y2 ?_))))
   refine Y1 (Yv.indexL rfl st_9 eV eV (fun hg => ⟨rfl, by omega⟩)) ?_
   refine y1 (nl ?_)
   refine cq (fun h1t => ?_) fun h1f => ?_
   ·
    have hz : s.getD j 0 = 0 := u8z.1 h1t
    refine rs (y1 (nl ?_))
    refine rt ?_
    rw [bad_yes (by omega) hz]; rfl
   ·have hz : ¬ s.getD j 0 = 0 := fun q => h1f (u8z.2 q)
    refine sp (rg (y3 (nl ?_)))
    refine ⟨j + 1, ⟨by omega, fun i hi => ?_⟩, by omega, su sbZ, rfl⟩
    rcases Nat.lt_or_ge i j with h | h
    ·exact hpre i h
    ·rw [show i = j by omega]; exact hz
  ·refine xt (rs (y1 (nl ?_)))
   refine rt ?_
   rw [bad_no (fun i hi => hpre i (by omega))]; rfl

theorem fits33 (s : List UInt8) (hl : s.length ≤ 1099511627776) :
    ACalls Tryz.prog 58 [sv s] [] fun t S => t = .v (.bool ((decide (1 ≤ (s.length : Int)) && decide ((s.length : Int) ≤ 255)) && !badN s)) := by
 refine ai Tryz.func58 Tryz.ntmps58 fun X w0 => ?_
 refine rs (y1 ?_)
 refine nl (rs (y1 ?_))
 refine kp (zero55 s hl) ?_
 refine y1 ?_
 refine nl (rs (y13 (nl ?_)))
 refine rt ?_
 rfl

theorem find34F (b : Nat) (ds : DS) (n : Nat) (hnf : ds.files.length ≤ n) (hn : n ≤ 1099511627776) (name : List UInt8) :
    ACalls Tryz.prog 59 [wp b, sv name] (DSt b ds) (fun t S => t = .v (.int .i64 (findP name (pl ds).files)) ∧ S = DSt b ds) := by
 refine ai Tryz.func59 Tryz.ntmps59 fun X w0 => ?_
 refine rs (y1 ?_)
 refine nl (sq (rs (y1 ?_)))
 refine nl (bk ?_)
 refine lp1 (fun (j : Nat) => [(0, true, wp b), (1, true, sv name), (5, true, zv j)]) (fun (j : Nat) => (DSt b ds)) (fun (j : Nat) => j ≤ ds.files.length ∧ ∀ i, i < j → ¬ ((pl ds).files.getD i default).1 = name) (fun (j : Nat) => ds.files.length - j) 0 ?_ ?_
 ·exact ⟨Nat.zero_le _, fun i hi => by omega⟩
 ·
  intro j hinv
  obtain ⟨hj, hpre⟩ := hinv
  refine sq (rs (y7 (nl ?_)))
  refine cq (fun _ => ?_) fun _ => ?_
  ·
   refine sp (sq (bk (rs (y9 ?_))))
   refine Y1 (Yv.eqlL rfl eV eV) (nl ?_)
   refine cq (fun h1t => ?_) fun h1f => ?_
   ·
    have hnj : ((pl ds).files.getD j default).1 = name := by unfold pl; rw [nb_at (by omega)]; exact h1t
    refine rs (y2 (nl ?_))
    refine rt ?_
    have hjl : j < (pl ds).files.length := by unfold pl; rw [List.length_map]; omega
    rw [findP_yes hjl hpre hnj]
    exact ⟨rfl, rfl⟩
   ·have hnj : ¬ ((pl ds).files.getD j default).1 = name := by unfold pl; rw [nb_at (by omega)]; exact h1f
    refine sp (rg (y3 (nl ?_)))
    refine ⟨j + 1, ⟨by omega, fun i hi => ?_⟩, by omega, su sbZ, rfl⟩
    rcases Nat.lt_or_ge i j with h | h
    ·exact hpre i h
    ·rw [show i = j by omega]; exact hnj
  ·refine xt (rs (y1 (nl ?_)))
   refine rt ?_
   rw [(findP_no (fun i hi => hpre i (by unfold pl at hi; rw [List.length_map] at hi; omega))).1]
   exact ⟨rfl, rfl⟩

theorem find34 (b : Nat) (ds : DS) (n : Nat) (hw : PB n (pl ds)) (hn : n ≤ 1099511627776) (name : List UInt8) :
    ACalls Tryz.prog 59 [wp b, sv name] (DSt b ds) (fun t S => t = .v (.int .i64 (findP name (pl ds).files)) ∧ S = DSt b ds) := find34F b ds n (nfl_of hw) hn name
theorem kind56 (b : Nat) (ds : DS) (n : Nat) (hw : PB n (pl ds)) (hn : n ≤ 1099511627776) (fd : Int) :
    ACalls Tryz.prog 108 [wp b, .v (.int .i64 fd)] (DSt b ds) (fun t S => t = .v (.int .i64 (kindP fd (pl ds))) ∧ S = DSt b ds) := by
 obtain ⟨ho, htr, htx, hfl, hpl, hsi, hnf⟩ := hw
 have ho : ds.opn.length = 19 := ho
 have htr : ds.trace.length ≤ n := htr
 have hsi : ds.stdin.length ≤ n := hsi
 have hnf : ds.files.length ≤ n := by have h := hnf; unfold pl at h; rwa [List.length_map] at h
 refine ai Tryz.func108 Tryz.ntmps108 fun X w0 => ?_
 refine rs (y1 ?_)
 refine nl (sq (rs (y6 (nl ?_))))
 refine cq (fun h0t => ?_) fun h0f => ?_
 ·
  replace h0t := sm h0t
  refine rs (y1 (nl ?_))
  refine rt ?_
  unfold kindP; rw [if_pos (by omega)]; exact ⟨rfl, rfl⟩
 replace h0f := sm h0f
 refine sp ?_
 obtain ⟨j, rfl⟩ : ∃ j : Nat, fd = (j : Int) := ⟨fd.toNat, by omega⟩
 refine rs (y9 (nl ?_))
 refine rt ?_
 unfold kindP; rw [if_neg (by omega)]; exact ⟨rfl, rfl⟩

theorem SysClose41 (b : Nat) (ds : DS) (n : Nat) (hw : PB n (pl ds)) (hn : n ≤ 1099511627776) (fd : Int) :
    ACalls Tryz.prog 93 [wp b, .v (.int .i64 fd)] (DSt b ds) (fun t S => t = .v (.int .i64 (closeV fd (pl ds))) ∧ S = DSt b { ds with opn := (closeP fd (pl ds)).opn }) := by
 have hw1 := hw
 obtain ⟨ho, htr, htx, hfl, hpl, hsi, hnf⟩ := hw
 have ho : ds.opn.length = 19 := ho
 have htr : ds.trace.length ≤ n := htr
 have hsi : ds.stdin.length ≤ n := hsi
 have hnf : ds.files.length ≤ n := by have h := hnf; unfold pl at h; rwa [List.length_map] at h
 refine ai Tryz.func93 Tryz.ntmps93 fun X w0 => ?_
 refine rs (y1 ?_)
 refine nl (sq (rs (y2 ?_)))
 refine ka (kind56 b ds n hw1 hn fd) ?_
 rintro t7 S7 ⟨rfl, rfl⟩
 refine y1 (nl ?_)
 refine cq (fun h0t => ?_) fun h0f => ?_
 ·
  refine rs (y1 (nl ?_))
  refine rt ?_
  unfold closeV closeP; rw [if_pos h0t, if_pos h0t]; exact ⟨rfl, rfl⟩
 ·refine sp ?_
  have hin : 0 ≤ fd ∧ fd < 19 := by
   unfold kindP at h0f
   split at h0f
   ·exact absurd rfl h0f
   ·omega
  obtain ⟨j, rfl⟩ : ∃ j : Nat, fd = (j : Int) := ⟨fd.toNat, by omega⟩
  refine rs (y7 ?_)
  refine AWL.storeEp (i := 2) (m := 3) rfl rfl rfl ag_137 rfl (E rfl rfl) (E rfl rfl) rfl rfl (by decide) (by rw [len_desc]; omega) ?_
  refine nl (rs (y1 (nl ?_)))
  refine rt ?_
  unfold closeV closeP; rw [if_neg h0f, if_neg h0f]
  refine ⟨rfl, ?_⟩
  have e := dset_all (l := ds.opn) (j := j) (by omega) ⟨0, [], 0⟩
  unfold DSt
  simp only [List.length_set]
  show _ = _ :: _ :: Ent.row _ _ _ _ _ ((ds.opn.set j ⟨0, [], 0⟩).flatMap descCells) :: _
  rw [← e]
  unfold dCells
  simp only [List.length_set]
  rfl

theorem dst_more {b : Nat} {ds : DS} {k : Int} {name text : List UInt8} (h0 : text ≠ []) (h : 0 < ds.trace.length ∧ (lastE ds.trace).kind = k ∧ (lastE ds.trace).name = name) :
    DSt b { ds with trace := sayF k name text ds.trace } = .box b 115 (dCells ds) :: .row ds.lA ds.files.length ds.lc 163 2 (ds.files.flatMap fileCells) :: .row ds.dA ds.opn.length ds.dc 137 3 (ds.opn.flatMap descCells) :: .row ds.tA ds.trace.length ds.tc 149 3 ((ds.trace.flatMap evCells).set ((ds.trace.length - 1) * 3 + 2) (sv ((lastE ds.trace).text ++ text))) :: ds.files.map fileRow := by
 rw [sayF_more h0 h]
 simp only [DSt, dCells, List.length_set]
 rw [set_ev (by omega)]
 rfl
theorem dst_new {b : Nat} {ds : DS} {k : Int} {name text : List UInt8} {A : Option Addr} {c : Nat} (h0 : text ≠ []) (h : ¬ (0 < ds.trace.length ∧ (lastE ds.trace).kind = k ∧ (lastE ds.trace).name = name)) :
    DSt b { ds with trace := sayF k name text ds.trace, tA := A, tc := c } = .box b 115 [.v (.slice ds.lA ds.files.length ds.lc), sv ds.stdin, .v (.slice ds.dA ds.opn.length ds.dc), .v (.slice A (ds.trace.length + 1) c)] :: .row ds.lA ds.files.length ds.lc 163 2 (ds.files.flatMap fileCells) :: .row ds.dA ds.opn.length ds.dc 137 3 (ds.opn.flatMap descCells) ::
     .row A (ds.trace.length + 1) c 149 3 (ds.trace.flatMap evCells ++ [.v (.int .i64 k), sv name, sv text]) :: ds.files.map fileRow := by
 rw [sayF_new h0 h]
 simp only [DSt, dCells, List.length_append, List.length_cons, List.length_nil, List.flatMap_append, List.flatMap_cons, List.flatMap_nil, List.append_nil, Nat.zero_add]
 rfl
def layL (f : FileR) (l : List FileR) (i : Nat) : List FileR := l.take i ++ f :: l.drop i
theorem layL_len {f : FileR} {l : List FileR} {i : Nat} (h : i ≤ l.length) : (layL f l i).length = l.length + 1 := by
 unfold layL
 rw [List.length_append, List.length_take, List.length_cons, List.length_drop]
 omega
theorem layL_end (f : FileR) (l : List FileR) : layL f l l.length = l ++ [f] := by
 unfold layL
 rw [List.take_length, List.drop_length]
theorem layL_at {f : FileR} {l : List FileR} {i : Nat} (h : i ≤ l.length) : (layL f l i).getD i default = f := by
 have ht : (l.take i).length = i := by rw [List.length_take]; omega
 unfold layL
 rw [List.getD_eq_getElem?_getD, List.getElem?_append_right (by omega), ht, Nat.sub_self]
 rfl
theorem layL_be {f : FileR} {l : List FileR} {i j : Nat} (h : i ≤ l.length) (hj : j < i) : (layL f l i).getD j default = l.getD j default := by
 have ht : (l.take i).length = i := by rw [List.length_take]; omega
 unfold layL
 rw [List.getD_eq_getElem?_getD, List.getD_eq_getElem?_getD, List.getElem?_append_left (by omega), List.getElem?_take, if_pos hj]
theorem layL_swap {f : FileR} {l : List FileR} {i : Nat} (h : i ≤ l.length) (h0 : 0 < i) : ((layL f l i).set i (l.getD (i - 1) default)).set (i - 1) f = layL f l (i - 1) := by
 apply List.ext_getElem?
 intro k
 have hl := layL_len (f := f) h
 have hl' := layL_len (f := f) (l := l) (i := i - 1) (by omega)
 have ht : (l.take i).length = i := by rw [List.length_take]; omega
 have ht' : (l.take (i - 1)).length = i - 1 := by rw [List.length_take]; omega
 rw [List.getElem?_set, List.getElem?_set, List.length_set, hl]
 unfold layL
 by_cases h1 : i - 1 = k
 ·rw [if_pos h1, if_pos (by omega), List.getElem?_append_right (by omega), ht', show k - (i - 1) = 0 by omega]
  rfl
 rw [if_neg h1]
 by_cases h2 : i = k
 ·rw [if_pos h2, if_pos (by omega), List.getElem?_append_right (by omega), ht', show k - (i - 1) = 0 + 1 by omega, List.getElem?_cons_succ, List.getElem?_drop, getD_eq' (by omega), show i - 1 + 0 = i - 1 by omega, List.getElem?_eq_getElem (by omega)]
 rw [if_neg h2]
 rcases Nat.lt_or_ge k (i - 1) with h3 | h3
 ·rw [List.getElem?_append_left (by omega), List.getElem?_append_left (by omega), List.getElem?_take, List.getElem?_take, if_pos (by omega), if_pos h3]
 rw [List.getElem?_append_right (by omega), List.getElem?_append_right (by omega), ht, ht', show k - i = (k - i - 1) + 1 by omega, show k - (i - 1) = (k - i) + 1 by omega, List.getElem?_cons_succ, List.getElem?_cons_succ, List.getElem?_drop, List.getElem?_drop]
 congr 1
 omega
theorem layL_perm (f : FileR) (l : List FileR) (i : Nat) : (l ++ [f]).Perm (layL f l i) := by
 have e : (layL f l i).Perm (l.take i ++ (l.drop i ++ [f])) := List.Perm.append_left _ (List.perm_append_singleton f _).symm
 rw [← List.append_assoc, List.take_append_drop] at e
 exact e.symm
def DSl (b : Nat) (ds : DS) (f : FileR) (i : Nat) (A : Option Addr) (c : Nat) : St :=
 .box b 115 [.v (.slice A (ds.files.length + 1) c), sv ds.stdin, .v (.slice ds.dA ds.opn.length ds.dc), .v (.slice ds.tA ds.trace.length ds.tc)] :: .row A (ds.files.length + 1) c 163 2 ((layL f ds.files i).flatMap fileCells) :: .row ds.dA ds.opn.length ds.dc 137 3 (ds.opn.flatMap descCells) :: .row ds.tA ds.trace.length ds.tc 149 3 (ds.trace.flatMap evCells) :: (ds.files ++ [f]).map fileRow
theorem dsl_perm {b : Nat} {ds : DS} {f : FileR} {i : Nat} {A : Option Addr} {c : Nat} (h : i ≤ ds.files.length) : (DSt b { ds with files := layL f ds.files i, lA := A, lc := c }).Perm (DSl b ds f i A c) := by
 unfold DSt DSl dCells
 simp only [layL_len h]
 exact (((((layL_perm f ds.files i).symm.map fileRow).cons _).cons _).cons _).cons _
theorem dsl_new {b : Nat} {ds : DS} {f : FileR} {A : Option Addr} {c : Nat} :
    DSl b ds f ds.files.length A c = .box b 115 [.v (.slice A (ds.files.length + 1) c), sv ds.stdin, .v (.slice ds.dA ds.opn.length ds.dc), .v (.slice ds.tA ds.trace.length ds.tc)] :: .row A (ds.files.length + 1) c 163 2 (ds.files.flatMap fileCells ++ [sv f.name, .v (.slice f.A f.bytes.length f.c)]) :: .row ds.dA ds.opn.length ds.dc 137 3 (ds.opn.flatMap descCells) :: .row ds.tA ds.trace.length ds.tc 149 3 (ds.trace.flatMap evCells) :: (ds.files.map fileRow ++ [fileRow f]) := by
 unfold DSl
 rw [layL_end, List.flatMap_append, List.map_append]
 rfl
theorem lay_nm {f : FileR} {l : List FileR} {i : Nat} (h : i ≤ l.length) : ((layL f l i).flatMap fileCells)[i * 2 + 0]? = some (sv f.name) := by
 rw [fnm_at (by rw [layL_len h]; omega), layL_at h]
theorem lay_nb {f : FileR} {l : List FileR} {i : Nat} (h : i ≤ l.length) (h0 : 0 < i) : ((layL f l i).flatMap fileCells)[(i - 1) * 2 + 0]? = some (sv (l.getD (i - 1) default).name) := by
 rw [fnm_at (by rw [layL_len h]; omega), layL_be h (by omega)]
theorem cells_at {l : List FileR} {j : Nat} (h : j < l.length) : ((l.flatMap fileCells).drop (j * 2)).take 2 = fileCells (l.getD j default) := by
 rw [drop_flat fck, List.drop_eq_getElem_cons h, List.flatMap_cons, getD_eq' h]
 rw [List.take_append_of_le_length (by rw [fck]; exact Nat.le_refl _)]
 exact List.take_of_length_le (by rw [fck]; exact Nat.le_refl _)
theorem lay_swap {f : FileR} {l : List FileR} {i : Nat} (h : i ≤ l.length) (h0 : 0 < i) :
    (((layL f l i).flatMap fileCells).take (i * 2) ++ fileCells (l.getD (i - 1) default) ++ ((layL f l i).flatMap fileCells).drop (i * 2 + 2)).take ((i - 1) * 2) ++ fileCells f ++ (((layL f l i).flatMap fileCells).take (i * 2) ++ fileCells (l.getD (i - 1) default) ++ ((layL f l i).flatMap fileCells).drop (i * 2 + 2)).drop ((i - 1) * 2 + 2) = (layL f l (i - 1)).flatMap fileCells := by
 have hl := layL_len (f := f) h
 rw [fset_all (by omega), fset_all (by rw [List.length_set]; omega), layL_swap h h0]
theorem lay_done {ds : DS} {f : FileR} {i : Nat} (h : i ≤ ds.files.length) (ha : ∀ y ∈ ds.files.drop i, bl f.name y.name = true) (hb : i = 0 ∨ bl f.name (ds.files.getD (i - 1) default).name = false) : Laid (nb f) (ds.files.map nb) ((layL f ds.files i).map nb) := by
 refine ⟨i, by rw [List.length_map]; exact h, ?_, fun y hy => ?_, ?_⟩
 ·unfold layL
  rw [List.map_append, List.map_take, List.map_cons, List.map_drop]
 ·rw [← List.map_drop] at hy
  obtain ⟨z, hz, rfl⟩ := List.mem_map.1 hy
  exact ha z hz
 rcases hb with hb | hb
 ·exact .inl hb
 rcases Nat.eq_zero_or_pos i with h0 | h0
 ·exact .inl h0
 right
 rw [nb_at (by omega)]
 exact hb

theorem say57 (b : Nat) (ds : DS) (n : Nat) (hw : PB n (pl ds)) (hn : n ≤ 1099511627776) (k : Int) (name text : List UInt8) (ht : text.length ≤ 1099511627776) :
    ACalls Tryz.prog 109 [wp b, .v (.int .i64 k), sv name, sv text] (DSt b ds) (fun t S => t = .tup [] ∧ ∃ A c, S = DSt b { ds with trace := sayF k name text ds.trace, tA := A, tc := c }) := by
 obtain ⟨ho, htr, htx, hfl, hpl, hsi, hnf⟩ := hw
 have ho : ds.opn.length = 19 := ho
 have htr : ds.trace.length ≤ n := htr
 have hsi : ds.stdin.length ≤ n := hsi
 have hnf : ds.files.length ≤ n := by have h := hnf; unfold pl at h; rwa [List.length_map] at h
 have htxt : ∀ e ∈ ds.trace, e.text.length ≤ n := htx
 refine ai Tryz.func109 Tryz.ntmps109 fun X w0 => ?_
 refine rs (y6 ?_)
 refine nl (sq (rs (y1 ?_)))
 refine Y1 (Yv.eqlL rfl eV eV) (nl ?_)
 refine cq (fun h0t => ?_) fun h0f => ?_
 ·
  refine AW.ret (retI .nil ?_)
  exact ⟨rfl, ds.tA, ds.tc, by rw [h0t, sayF_nil]⟩
 refine sp (sq (rs (y8 ?_)))
 refine gT (Yv.subN_i64 rfl (Eg rfl rfl id) (E rfl rfl) (fun hg => by first | omega | (simp only [Bool.and_eq_true, Bool.or_eq_false_iff, Bool.not_eq_true', Bool.not_eq_false', decide_eq_true_eq, decide_eq_false_iff_not] at hg; omega))) ?_
 refine gT (ix (j := ds.trace.length - 1) (hj := fun hg => o2)) ?_
 refine y1 ?_
 refine gT (lw (hr := fun hg => evk_at og)) ?_
 refine y9 ?_
 refine gT (Yv.subN_i64 rfl (Eg rfl rfl id) (E rfl rfl) (fun hg => by first | omega | (simp only [Bool.and_eq_true, Bool.or_eq_false_iff, Bool.not_eq_true', Bool.not_eq_false', decide_eq_true_eq, decide_eq_false_iff_not] at hg; omega))) ?_
 refine gT (ix (j := ds.trace.length - 1) (hj := fun hg => o2)) ?_
 refine y1 ?_
 refine gT (lw (hr := fun hg => evn_at og)) ?_
 refine y1 ?_
 refine gT (Yv.eqlL rfl (Eg rfl rfl id) (Eg rfl rfl id)) ?_
 refine y1 (nl ?_)
 refine cq (fun h1t => ?_) fun h1f => ?_
 ·
  replace h1t := sm h1t
  obtain ⟨⟨g1, g2⟩, g3⟩ := h1t
  have hlast := htxt _ (last_mem (l := ds.trace) (by omega))
  unfold lastE at hlast
  refine AW.rseqP rfl ?_
  refine phn 19 1 ?_
  refine q12 ?_
  refine Q1 (ix (j := ds.trace.length - 1) (hj := fun hg => o2)) ?_
  refine q1 ?_
  refine Q1 (lw (hr := fun hg => evt_at og)) ?_
  refine q1 ?_
  refine Q1 (Yv.addL rfl eV eV (fun hg => by first | omega | (simp only [List.length_append, List.length_cons, List.length_nil]; omega))) ?_
  refine Q1 (ix (j := ds.trace.length - 1) (hj := fun hg => o2)) ?_
  refine q1 (nq ?_)
  refine op 19 ?_
  refine y1 (nl ?_)
  refine dn ?_
  refine AW.ret (retI .nil ?_)
  exact ⟨rfl, ds.tA, ds.tc, (dst_more h0f ⟨by omega, g2, g3⟩).symm⟩
 have hno : ¬ (0 < ds.trace.length ∧ (lastE ds.trace).kind = k ∧ (lastE ds.trace).name = name) := fun q => by
  obtain ⟨q1, q2, q3⟩ := q
  unfold lastE at q2 q3
  rw [decide_eq_true (show (0 : Int) < ds.trace.length by omega), decide_eq_true q2, decide_eq_true q3] at h1f
  cases h1f
 refine sp (rg (y9 ?_))
 refine AWL.buildSliceE rfl rfl (B rfl) rfl el_72 (B rfl) rfl (evsC (E rfl rfl) evs0) nB rfl rfl ?_
 refine AWL.appendRow (i := 3) rfl rfl (B rfl) rfl el_72 (B rfl) rfl (E rfl rfl) (SrcT.sl so_72 (B rfl) (E rfl rfl) (m := 1) rfl) (by unfold maxLen; omega) (by omega) (fun A73 c73 => ?_)
 refine y3 (nl ?_)
 refine retN .nil ?_
 exact ⟨rfl, A73, c73, (dst_new h0f hno).symm⟩

theorem lay35F (b : Nat) (ds : DS) (n : Nat) (hnf : ds.files.length ≤ n) (hn : n ≤ 1099511627776) (f : FileR) (hfb : f.bytes.length ≤ 1099511627776) :
    ACalls Tryz.prog 60 [wp b, sv f.name, .v (.slice f.A f.bytes.length f.c)] (DSt b ds ++ [fileRow f]) (fun t S => t = .tup [] ∧ ∃ fs A c, Laid (nb f) (ds.files.map nb) (fs.map nb) ∧ S = DSt b { ds with files := fs, lA := A, lc := c }) := by
 refine ai Tryz.func60 Tryz.ntmps60 fun X w0 => ?_
 refine rs (y8 ?_)
 refine AWL.buildSliceE rfl rfl (B rfl) rfl el_112 (B rfl) rfl (evsC (E rfl rfl) evs0) nB rfl rfl ?_
 refine AWL.appendRow (i := 1) rfl rfl (B rfl) rfl el_112 (B rfl) rfl (E rfl rfl) (SrcT.sl so_112 (B rfl) (E rfl rfl) (m := 1) rfl) (by unfold maxLen; omega) (by omega) (fun A16 c16 => ?_)
 refine y3 (nl ?_)
 refine AW.eqS (S' := DSl b ds f ds.files.length A16 c16) (dsl_new (ds := ds) (f := f) (b := b)).symm ?_
 refine rs (y7 ?_)
 refine nl (bk ?_)
 refine lp1 (fun (i : Nat) => [(0, true, wp b), (6, true, zv i)]) (fun (i : Nat) => (DSl b ds f i A16 c16)) (fun (i : Nat) => i ≤ ds.files.length ∧ ∀ y ∈ ds.files.drop i, bl f.name y.name = true) (fun (i : Nat) => i) ds.files.length ?_ ?_
 ·exact ⟨Nat.le_refl _, fun y hy => by rw [List.drop_length] at hy; cases hy⟩
 ·
  intro i hinv
  obtain ⟨hi, hall⟩ := hinv
  refine sq (rq (q8 ?_))
  refine kT (ix (j := i) (hj := fun hg => o2)) ?_
  refine q1 ?_
  refine kT (lw (hr := fun hg => lay_nm og)) ?_
  refine q5 ?_
  refine kT (Yv.subN_i64 rfl (Eg rfl rfl id) (E rfl rfl) (fun hg => by first | omega | (simp only [Bool.and_eq_true, Bool.or_eq_false_iff, Bool.not_eq_true', Bool.not_eq_false', decide_eq_true_eq, decide_eq_false_iff_not] at hg; omega))) ?_
  refine kT (ix (j := (i - 1)) (hj := fun hg => o2)) ?_
  refine q1 ?_
  refine kT (lw (hr := fun hg => lay_nb og og)) ?_
  refine kT (Yv.lssS rfl (Eg rfl rfl id) (Eg rfl rfl id)) ?_
  refine q1 (nq ?_)
  refine cq (fun h0t => ?_) fun h0f => ?_
  ·
   replace h0t := sm h0t
   refine sp (sq (bk ?_))
   refine AW.regionP rfl ?_
   refine tp 9 ?_
   refine T1 (i := 10) rfl (freeSub_i64 rfl (E rfl rfl) (E rfl rfl) ⟨by omega, by omega⟩) ?_
   refine AWP.phase [true, true, true, true, true, true, true, true, true, false, false, true, true, true, true, true, true, true, true, true, true, true, true, true, true, true, true] 3 rfl (by kernel_rfl) (by kernel_rfl) ?_
   refine q15 ?_
   refine Q1 (ix (j := (i - 1)) (hj := fun hg => o2)) ?_
   refine Q1 (Yv.loadEpA (l' := fileCells (ds.files.getD (i - 1) default)) rfl ag_163 (i := 1) rfl eV (fun hg => ⟨by show List.take 2 (List.drop ((i - 1) * 2) _) = _; rw [cells_at (by rw [layL_len hi]; omega), layL_be hi (by omega)], rfl⟩)) ?_
   refine q5 ?_
   refine Q1 (ix (j := i) (hj := fun hg => o2)) ?_
   refine Q1 (Yv.loadEpA (l' := fileCells f) rfl ag_163 (i := 1) rfl eV (fun hg => ⟨by show List.take 2 (List.drop (i * 2) _) = _; rw [cells_at (by rw [layL_len hi]; omega), layL_at hi], rfl⟩)) ?_
   refine Q1 (ix (j := i) (hj := fun hg => o2)) ?_
   refine nq ?_
   refine op 27 ?_
   refine AWL.storeEp (i := 1) (m := 2) rfl rfl rfl ag_163 rfl (E rfl rfl) (E rfl rfl) rfl rfl (by decide) (by rw [len_files, layL_len hi]; omega) (nl ?_)
   refine op 28 ?_
   refine Y1 (ix (j := (i - 1)) (hj := fun hg => o2)) (nl ?_)
   refine op 29 ?_
   refine AWL.storeEp (i := 1) (m := 2) rfl rfl rfl ag_163 rfl (E rfl rfl) (E rfl rfl) rfl rfl (by decide) (by show (i - 1) * 2 + 2 ≤ (List.take (i * 2) ((layL f ds.files i).flatMap fileCells) ++ fileCells (ds.files.getD (i - 1) default) ++ List.drop (i * 2 + 2) ((layL f ds.files i).flatMap fileCells)).length; rw [fset_all (by rw [layL_len hi]; omega), len_files, List.length_set, layL_len hi]; omega) (nl ?_)
   refine dn ?_
   refine AW.eqS (S' := DSl b ds f (i - 1) A16 c16) (by
    have e := lay_swap (f := f) (l := ds.files) (i := i) hi (by omega)
    unfold DSl
    rw [← e]
    rfl) ?_
   refine rg (y3 (nl ?_))
   refine ⟨i - 1, ⟨by omega, fun y hy => ?_⟩, by omega, su (Sub.cons rfl (congrArg (fun x => T.v (.int .i64 x)) (Int.natCast_sub (by omega))) Sub.nil), rfl⟩
   rw [List.drop_eq_getElem_cons (by omega), show i - 1 + 1 = i by omega] at hy
   rcases List.mem_cons.1 hy with rfl | hy
   ·rw [← getD_eq' (by omega)]; exact h0t.2
   ·exact hall y hy
  ·replace h0f := sm h0f
   have hbx : i = 0 ∨ bl f.name (ds.files.getD (i - 1) default).name = false := by
    rcases h0f with h | h
    ·exact .inl (by omega)
    ·exact .inr h
   refine AW.perm (dsl_perm hi) ?_
   refine xt ?_
   refine retN .nil ?_
   exact ⟨rfl, layL f ds.files i, A16, c16, lay_done hi hall hbx, rfl⟩

theorem lay35 (b : Nat) (ds : DS) (n : Nat) (hw : PB n (pl ds)) (hn : n ≤ 1099511627776) (f : FileR) (hfb : f.bytes.length ≤ 1099511627776) :
    ACalls Tryz.prog 60 [wp b, sv f.name, .v (.slice f.A f.bytes.length f.c)] (DSt b ds ++ [fileRow f]) (fun t S => t = .tup [] ∧ ∃ fs A c, Laid (nb f) (ds.files.map nb) (fs.map nb) ∧ S = DSt b { ds with files := fs, lA := A, lc := c }) := lay35F b ds n (nfl_of hw) hn f hfb
theorem set_rows {l : List FileR} {q : Nat} (h : q < l.length) (f : FileR) : ∃ S', List.Sublist S' (l.map fileRow ++ [fileRow f]) ∧ ((l.set q f).map fileRow).Perm S' := by
 have e0 : l = l.take q ++ l[q] :: l.drop (q + 1) := by rw [← List.drop_eq_getElem_cons h, List.take_append_drop]
 refine ⟨(l.take q).map fileRow ++ ((l.drop (q + 1)).map fileRow ++ [fileRow f]), ?_, ?_⟩
 ·conv => rhs; rw [e0]
  rw [List.map_append, List.map_cons, List.append_assoc]
  exact (List.Sublist.refl _).append ((List.Sublist.refl _).cons _)
 rw [List.set_eq_take_append_cons_drop, if_pos h, List.map_append, List.map_cons]
 exact List.Perm.append_left _ (List.perm_append_singleton _ _).symm
section
variable {cx : Cx} {Q : Exit → Env → St → Prop} {env : Env} {S : St} {ops : Array Oper} {l' : List Oper} {K : Env → St → Prop}
theorem AW.setRow {code : Code} {a b c d : Ent} {l : List FileR} {q : Nat} (f : FileR) (hq : q < l.length) (hS : S = (a :: b :: c :: d :: l.map fileRow) ++ [fileRow f]) (h : AW cx code Q env (a :: b :: c :: d :: (l.set q f).map fileRow)) : AW cx code Q env S := by
 subst hS
 obtain ⟨S', h1, h2⟩ := set_rows hq f
 exact AW.drop (S' := a :: b :: c :: d :: S') ((((h1.cons_cons d).cons_cons c).cons_cons b).cons_cons a) (AW.perm ((((h2.cons d).cons c).cons b).cons a) h)
end
theorem dst_opn {b j : Nat} {ds : DS} (hj : j < ds.opn.length) (d : Desc) :
    .box b 115 (dCells ds) :: .row ds.lA ds.files.length ds.lc 163 2 (ds.files.flatMap fileCells) :: .row ds.dA ds.opn.length ds.dc 137 3 ((ds.opn.flatMap descCells).take (j * 3) ++ descCells d ++ (ds.opn.flatMap descCells).drop (j * 3 + 3)) :: .row ds.tA ds.trace.length ds.tc 149 3 (ds.trace.flatMap evCells) :: ds.files.map fileRow = DSt b { ds with opn := ds.opn.set j d } := by
 rw [dset_all hj]
 unfold DSt dCells
 simp only [List.length_set]
theorem dst_event {b : Nat} {ds : DS} (e : Evt) (A : Option Addr) (c : Nat) : DSt b { ds with trace := ds.trace ++ [e], tA := A, tc := c } =
    .box b 115 [.v (.slice ds.lA ds.files.length ds.lc), sv ds.stdin, .v (.slice ds.dA ds.opn.length ds.dc), .v (.slice A (ds.trace.length + 1) c)] :: .row ds.lA ds.files.length ds.lc 163 2 (ds.files.flatMap fileCells) :: .row ds.dA ds.opn.length ds.dc 137 3 (ds.opn.flatMap descCells) ::
     .row A (ds.trace.length + 1) c 149 3 (ds.trace.flatMap evCells ++ evCells e) :: ds.files.map fileRow := by
 simp only [DSt, dCells, List.length_append, List.length_cons, List.length_nil, List.flatMap_append, List.flatMap_cons, List.flatMap_nil, List.append_nil, Nat.zero_add]
theorem dst_bytes {b q : Nat} {ds : DS} (hq : q < ds.files.length) (A : Option Addr) (s : List UInt8) (c : Nat) :
    DSt b { ds with files := ds.files.set q ⟨(ds.files.getD q default).name, s, A, c⟩ } = .box b 115 (dCells ds) :: .row ds.lA ds.files.length ds.lc 163 2 ((ds.files.flatMap fileCells).set (q * 2 + 1) (.v (.slice A s.length c))) :: .row ds.dA ds.opn.length ds.dc 137 3 (ds.opn.flatMap descCells) :: .row ds.tA ds.trace.length ds.tc 149 3 (ds.trace.flatMap evCells) :: (ds.files.set q ⟨(ds.files.getD q default).name, s, A, c⟩).map fileRow := by
 rw [fset_bytes hq]
 unfold DSt dCells
 simp only [List.length_set]
theorem bad_flag {f : Int} {x r : Bool} (h : (!decide (f = 0) && !decide (f = 577) || x) = r) : ((f ≠ 0 ∧ f ≠ 577) ∨ x = true) ↔ r = true := by
 subst h
 simp
theorem PB.opn_set {n j : Nat} {p : PW} {d : Desc} (h : PB n p) (hd : d.place ≤ n) : PB n { p with opn := p.opn.set j d } :=
 ⟨by show (p.opn.set j d).length = 19; rw [List.length_set]; exact h.opn, h.tr, h.txt, h.fl, fun x hx => by
  rcases List.mem_or_eq_of_mem_set hx with hx | rfl
  ·exact h.pl x hx
  ·exact hd, h.sin, h.nf⟩

theorem SysOpen37 (b : Nat) (ds : DS) (n : Nat) (hw : PB n (pl ds)) (hn : n ≤ 1099511627776) (name : List UInt8) (flags : Int) (hnl : name.length ≤ 1099511627776) :
    ACalls Tryz.prog 110 [wp b, sv name, .v (.int .i64 flags)] (DSt b ds) (fun t S => t = .v (.int .i64 (openV name flags (pl ds))) ∧ ∃ ds', DOpen name flags (pl ds) (pl ds') ∧ S = DSt b ds') := by
 have hw1 := hw
 obtain ⟨ho, htr, htx, hfl, hpl, hsi, hnf⟩ := hw
 have ho : ds.opn.length = 19 := ho
 have htr : ds.trace.length ≤ n := htr
 have hsi : ds.stdin.length ≤ n := hsi
 have hnf : ds.files.length ≤ n := by have h := hnf; unfold pl at h; rwa [List.length_map] at h
 have htxt : ∀ e ∈ ds.trace, e.text.length ≤ n := htx
 refine ai Tryz.func110 Tryz.ntmps110 fun X w0 => ?_
 refine rs (y1 ?_)
 refine nl (rs (y1 ?_))
 refine kp (zero55 name hnl) ?_
 refine y1 ?_
 refine nl (rs (y2 ?_))
 refine ka (find34 b ds n hw1 hn name) ?_
 rintro t14 S14 ⟨rfl, rfl⟩
 refine y1 ?_
 refine nl (rs (y1 ?_))
 refine nl (sq (bk ?_))
 refine lp1 (fun (j : Nat) => [(0, true, wp b), (1, true, sv name), (2, true, .v (.int .i64 flags)), (7, true, .v (.bool (badN name))), (8, true, .v (.int .i64 (findP name (pl ds).files))), (9, true, zv j)]) (fun (j : Nat) => (DSt b ds)) (fun (j : Nat) => j ≤ 19 ∧ ∀ i, i < j → (ds.opn.getD i default).kind ≠ 0) (fun (j : Nat) => 19 - j) 0 ?_ ?_
 ·exact ⟨Nat.zero_le _, fun i hi => absurd hi (Nat.not_lt_zero i)⟩
 ·
  intro j hinv
  obtain ⟨hj, hbef⟩ := hinv
  refine sq (rs (y8 ?_))
  refine gT (ix (j := j) (hj := fun hg => o2)) ?_
  refine y1 ?_
  refine gT (lw (hr := fun hg => dkd_at og)) ?_
  refine y2 (nl ?_)
  refine cq (fun h0t => ?_) fun h0f => ?_
  ·
   replace h0t := sm h0t
   refine sp (bk (rg (y3 (nl ?_))))
   refine ⟨j + 1, ⟨by omega, fun i hi => ?_⟩, by omega, sbZ, rfl⟩
   rcases Nat.lt_or_ge i j with h | h
   ·exact hbef i h
   ·obtain rfl : i = j := by omega
    exact h0t.2
  ·replace h0f := sm h0f
   refine xt (sq (bk (rs (y4 (nl ?_)))))
   refine cq (fun _ => ?_) fun _ => ?_
   ·
    refine rs (y1 (nl ?_))
    refine rt ?_
    have e : openV name flags (pl ds) = -36 := by
     unfold openV
     rw [if_pos (by omega)]
    exact ⟨by rw [e]; rfl, ds, ⟨.inl ⟨by rw [e]; decide, rfl⟩⟩, rfl⟩
   ·refine rs (y10 (nl ?_))
    refine cq (fun h2t => ?_) fun h2f => ?_
    ·
     have hbd : (flags ≠ 0 ∧ flags ≠ 577) ∨ badN name = true := (bad_flag h2t).2 rfl
     refine rs (y1 (nl ?_))
     refine rt ?_
     have e : openV name flags (pl ds) = -22 := by
      unfold openV
      rw [if_neg (by omega), if_pos hbd]
     exact ⟨by rw [e]; rfl, ds, ⟨.inl ⟨by rw [e]; decide, rfl⟩⟩, rfl⟩
    ·have hbd : ¬ ((flags ≠ 0 ∧ flags ≠ 577) ∨ badN name = true) := fun q => absurd ((bad_flag h2f).1 q) (by decide)
     refine rs (y1 ?_)
     refine Y1 (Yv.eqlL rfl eV eV) ?_
     refine y9 (nl ?_)
     refine cq (fun h3t => ?_) fun h3f => ?_
     ·
      replace h3t := sm h3t
      refine rs (y1 (nl ?_))
      refine rt ?_
      have e : openV name flags (pl ds) = -2 := by
       unfold openV
       rw [if_neg (by omega), if_neg hbd]
       by_cases hne : name = []
       ·rw [if_pos hne]
       ·rcases h3t with h | ⟨h, h2⟩
        ·exact absurd h hne
        ·have h4 : getP name (pl ds).files = none := by
          rcases findP_get (name := name) (l := (pl ds).files) with ⟨_, h3⟩ | ⟨q1, h3, _⟩
          ·exact h3
          ·rw [h3] at h2; omega
         rw [if_neg hne, if_pos ⟨h, h4⟩]
      exact ⟨by rw [e]; rfl, ds, ⟨.inl ⟨by rw [e]; decide, rfl⟩⟩, rfl⟩
     ·replace h3f := sm h3f
      have hne : ¬ name = [] := h3f.1
      have hge : ¬ (flags = 0 ∧ findP name (pl ds).files < 0) := fun q => by
       rcases h3f.2 with h | h
       ·exact h q.1
       ·omega
      have hnone : ¬ (flags = 0 ∧ getP name (pl ds).files = none) := fun q => by
       rcases findP_get (name := name) (l := (pl ds).files) with ⟨h, _⟩ | ⟨q1, _, _, _, h, _⟩
       ·exact hge ⟨q.1, by rw [h]; decide⟩
       ·rw [q.2] at h; cases h
      have hR : openV name flags (pl ds) = if freeIx ds.opn < 19 then (freeIx ds.opn : Int) else -24 := by
       unfold openV
       rw [if_neg (by omega), if_neg hbd, if_neg hne, if_neg hnone]
       rfl
      refine rs (y3 (nl ?_))
      refine cq (fun _ => ?_) fun _ => ?_
      ·
       refine rs (y1 (nl ?_))
       refine rt ?_
       have hnf : ¬ freeIx ds.opn < 19 := by
        rw [← ho]
        exact freeIx_none (fun i hi => hbef i (by omega))
       rw [if_neg hnf] at hR
       exact ⟨by rw [hR]; rfl, ds, ⟨.inl ⟨by rw [hR]; decide, rfl⟩⟩, rfl⟩
      ·have hk0 : (ds.opn.getD j default).kind = 0 := by
        rcases h0f with h | h
        ·omega
        ·exact h
       have hix : freeIx ds.opn = j := freeIx_is (by omega) hk0 hbef
       rw [hix, if_pos (by omega)] at hR
       have hnn : ¬ openV name flags (pl ds) < 0 := by rw [hR]; omega
       refine sp (sq (rs (y2 (nl ?_))))
       refine cq (fun _ => ?_) fun h5f => ?_
       ·
        refine rs (y7 ?_)
        refine Y1 (ix (j := j) (hj := fun hg => o2)) ?_
        refine AWL.storeEp (i := 2) (m := 3) rfl rfl rfl ag_137 rfl (E rfl rfl) (E rfl rfl) rfl rfl (by decide) (by rw [len_desc]; omega) (nl ?_)
        refine AW.eqS (S' := DSt b { ds with opn := ds.opn.set j ⟨4, name, 0⟩ }) (dst_opn (by omega) ⟨4, name, 0⟩) ?_
        refine rs (y2 (nl ?_))
        refine rt ?_
        refine ⟨by rw [hR]; rfl, { ds with opn := ds.opn.set j ⟨4, name, 0⟩ }, ⟨.inr (.inl ⟨hnn, by omega, ?_⟩)⟩, rfl⟩
        unfold openP
        rw [if_neg hnn, if_neg (by omega), show freeIx (pl ds).opn = j from hix]
        rfl
       ·have h577 : flags = 577 := by
         by_cases h : flags = 577
         ·exact h
         ·exact absurd (.inl ⟨h5f, h⟩) hbd
        refine sp (rs (y7 ?_))
        refine Y1 (ix (j := j) (hj := fun hg => o2)) ?_
        refine AWL.storeEp (i := 2) (m := 3) rfl rfl rfl ag_137 rfl (E rfl rfl) (E rfl rfl) rfl rfl (by decide) (by rw [len_desc]; omega) (nl ?_)
        refine AW.eqS (S' := DSt b { ds with opn := ds.opn.set j ⟨5, name, 0⟩ }) (dst_opn (by omega) ⟨5, name, 0⟩) ?_
        refine sq (rs (y2 (nl ?_)))
        refine cq (fun h6t => ?_) fun h6f => ?_
        ·
         obtain ⟨q, hfq, hq, hqn, hqg, hqp⟩ := (findP_get (name := name) (l := (pl ds).files)).resolve_left (fun h => by rw [h.1] at h6t; exact absurd h6t (by decide))
         rw [hfq]
         have hq : q < ds.files.length := by have h := hq; unfold pl at h; rwa [List.length_map] at h
         have hqn : (ds.files.getD q default).name = name := by have h := hqn; unfold pl at h; rwa [nb_at hq] at h
         refine rg (y7 ?_)
         refine AWL.storeEp1 (i := 1) rfl rfl rfl ag_23 rfl (E rfl rfl) (E rfl rfl) rfl rfl (by rw [len_files]; show q * 2 + 1 < ds.files.length * 2; omega) (nl ?_)
         refine AW.rowNil 5 1 ?_
         refine AW.setRow (f := ⟨name, [], none, 0⟩) (q := q) (l := ds.files) hq rfl ?_
         refine AW.eqS (S' := DSt b { { ds with opn := ds.opn.set j ⟨5, name, 0⟩ } with files := ds.files.set q ⟨name, [], none, 0⟩ }) (by
          have e := dst_bytes (b := b) (ds := { ds with opn := ds.opn.set j ⟨5, name, 0⟩ }) hq none [] 0
          rw [show (ds.files.getD q default).name = name from hqn] at e
          exact e.symm) ?_
         refine rs (y7 ?_)
         refine AWL.buildSliceE rfl rfl (B rfl) rfl el_72 (B rfl) rfl (evsC (E rfl rfl) evs0) nB rfl rfl ?_
         refine AWL.appendRow (i := 3) rfl rfl (B rfl) rfl el_72 (B rfl) rfl (E rfl rfl) (SrcT.sl so_72 (B rfl) (E rfl rfl) (m := 1) rfl) (by show ds.trace.length + 1 ≤ maxLen; unfold maxLen; omega) (by show (ds.trace.length + 1) * _ ≤ _; omega) (fun A97 c97 => ?_)
         refine y3 ?_
         refine nl (rs (y2 (nl ?_)))
         refine rt ?_
         refine ⟨by rw [hR]; rfl, { { ds with opn := ds.opn.set j ⟨5, name, 0⟩ } with files := ds.files.set q ⟨name, [], none, 0⟩, trace := ds.trace ++ [⟨3, name, []⟩], tA := A97, tc := c97 }, ⟨.inr (.inr ⟨hnn, h577, ?_, rfl, rfl, .inl ⟨⟨_, hqg⟩, ?_⟩⟩)⟩, ?_⟩
         ·rw [show freeIx (pl ds).opn = j from hix]; rfl
         ·rw [hqp]
          show (ds.files.set q ⟨name, [], none, 0⟩).map nb = _
          rw [List.map_set]
          rfl
         ·exact (dst_event (b := b) (ds := { { ds with opn := ds.opn.set j ⟨5, name, 0⟩ } with files := ds.files.set q ⟨name, [], none, 0⟩ }) ⟨3, name, []⟩ A97 c97).symm
        ·have hgn := (findP_get (name := name) (l := (pl ds).files)).resolve_right (fun ⟨q, h, _⟩ => by rw [h] at h6f; omega)
         refine AW.rowNil 5 1 ?_
         refine rg (y2 ?_)
         refine ka (lay35 b { ds with opn := ds.opn.set j ⟨5, name, 0⟩ } n (hw1.opn_set (Nat.zero_le n)) hn ⟨name, [], none, 0⟩ (Nat.zero_le _)) ?_
         rintro t88 S88 ⟨rfl, fs88, A88, c88, hl88, rfl⟩
         refine nl (rs (y7 ?_))
         refine AWL.buildSliceE rfl rfl (B rfl) rfl el_72 (B rfl) rfl (evsC (E rfl rfl) evs0) nB rfl rfl ?_
         refine AWL.appendRow (i := 3) rfl rfl (B rfl) rfl el_72 (B rfl) rfl (E rfl rfl) (SrcT.sl so_72 (B rfl) (E rfl rfl) (m := 1) rfl) (by show ds.trace.length + 1 ≤ maxLen; unfold maxLen; omega) (by show (ds.trace.length + 1) * _ ≤ _; omega) (fun A97 c97 => ?_)
         refine y3 ?_
         refine nl (rs (y2 (nl ?_)))
         refine rt ?_
         refine ⟨by rw [hR]; rfl, { { ds with opn := ds.opn.set j ⟨5, name, 0⟩ } with files := fs88, lA := A88, lc := c88, trace := ds.trace ++ [⟨3, name, []⟩], tA := A97, tc := c97 }, ⟨.inr (.inr ⟨hnn, h577, ?_, rfl, rfl, .inr ⟨hgn.2, ?_⟩⟩)⟩, ?_⟩
         ·rw [show freeIx (pl ds).opn = j from hix]; rfl
         ·exact hl88
         ·exact (dst_event (b := b) (ds := { { ds with opn := ds.opn.set j ⟨5, name, 0⟩ } with files := fs88, lA := A88, lc := c88 }) ⟨3, name, []⟩ A97 c97).symm

theorem dfile_row {b q : Nat} {ds : DS} (hq : q < ds.files.length) : (DSt b ds)[q + 4]? = some (fileRow (ds.files.getD q default)) := by
 unfold DSt
 simp only [List.getElem?_cons_succ]
 rw [List.getElem?_map, List.getElem?_eq_getElem hq, getD_eq' hq]
 rfl
def atP (d : Desc) (p : Nat) : Desc := { d with place := p }
theorem set_getD {α : Type} [Inhabited α] {l : List α} {j : Nat} (h : j < l.length) : l.set j (l.getD j default) = l := by
 rw [getD_eq' h, List.set_getElem_self]
theorem atP_self (d : Desc) : atP d d.place = d := rfl
theorem dpl_set {l : List Desc} {j : Nat} {d : Desc} (h : j < l.length) : ((l.set j d).flatMap descCells)[j * 3 + 2]? = some (.v (.int .i64 (d.place : Int))) := by
 rw [dpl_at (by rw [List.length_set]; exact h), getD_eq' (by rw [List.length_set]; exact h), List.getElem_set_self]
theorem dnm_set {l : List Desc} {j : Nat} {d : Desc} (h : j < l.length) : ((l.set j d).flatMap descCells)[j * 3 + 1]? = some (sv d.name) := by
 rw [dnm_at (by rw [List.length_set]; exact h), getD_eq' (by rw [List.length_set]; exact h), List.getElem_set_self]
def DSp (b : Nat) (ds : DS) (j p : Nat) : St := DSt b { ds with opn := ds.opn.set j (atP (ds.opn.getD j default) p) }
theorem dsp_self {b j : Nat} {ds : DS} (h : j < ds.opn.length) : DSp b ds j (ds.opn.getD j default).place = DSt b ds := by
 unfold DSp
 rw [atP_self, set_getD h]
theorem dsp_step {b j p : Nat} {ds : DS} (h : j < ds.opn.length) : (DSp b ds j p).set 2 (.row ds.dA (ds.opn.set j (atP (ds.opn.getD j default) p)).length ds.dc 137 3 (((ds.opn.set j (atP (ds.opn.getD j default) p)).flatMap descCells).set (j * 3 + 2) (.v (.int .i64 ((p : Int) + 1))))) = DSp b ds j (p + 1) := by
 have e := dset_place (l := ds.opn.set j (atP (ds.opn.getD j default) p)) (j := j) (by rw [List.length_set]; exact h) (p + 1)
 simp only [getD_set h, List.set_set] at e
 rw [show ((p : Int) + 1) = ((p + 1 : Nat) : Int) by omega, e]
 unfold DSp DSt dCells
 simp only [List.length_set]
 rfl
theorem dfile_rowp {b q j p : Nat} {ds : DS} (hq : q < ds.files.length) : (DSp b ds j p)[q + 4]? = some (fileRow (ds.files.getD q default)) := by
 unfold DSp
 exact dfile_row (ds := { ds with opn := ds.opn.set j (atP (ds.opn.getD j default) p) }) hq
theorem byte_at {l : List UInt8} {i : Nat} (h : i < l.length) : (l.map u8)[i * 1]? = some (u8 (l.getD i 0)) := by
 rw [Nat.mul_one, List.getElem?_map, List.getElem?_eq_getElem h, List.getD_eq_getElem?_getD, List.getElem?_eq_getElem h]
 rfl
theorem take_step {l : List UInt8} {p k : Nat} (h : p + k < l.length) : ((l.drop p).take k).map u8 ++ [u8 (l.getD (p + k) 0)] = ((l.drop p).take (k + 1)).map u8 := by
 have hk : k < (l.drop p).length := by rw [List.length_drop]; omega
 rw [List.take_add_one, List.getElem?_drop, List.map_append]
 rw [List.getElem?_eq_getElem h, List.getD_eq_getElem?_getD, List.getElem?_eq_getElem h]
 rfl
theorem read_file {ds : DS} {j q N : Nat} {fd : Int} (hfd : fd = (j : Int)) (hk : kindP fd (pl ds) = 4) (hq : q < ds.files.length) (hg : getP (ds.opn.getD j default).name (pl ds).files = some (ds.files.getD q default).bytes) :
    readV fd (N : Int) (pl ds) = (((ds.files.getD q default).bytes.drop (ds.opn.getD j default).place).take N, ((((ds.files.getD q default).bytes.drop (ds.opn.getD j default).place).take N).length : Int)) ∧
    readP fd (N : Int) (pl ds) = { pl ds with opn := ds.opn.set j (atP (ds.opn.getD j default) ((ds.opn.getD j default).place + (((ds.files.getD q default).bytes.drop (ds.opn.getD j default).place).take N).length)) } := by
 subst hfd
 have e : ((pl ds).opn.getD (j : Int).toNat default) = ds.opn.getD j default := rfl
 unfold readV readP
 rw [hk, if_neg (by decide), if_pos rfl, if_neg (by decide), if_pos rfl, e, hg]
 exact ⟨rfl, rfl⟩

theorem SysRead39 (b : Nat) (ds : DS) (n : Nat) (hw : PB n (pl ds)) (hn : n ≤ 1099511627776) (hnm : Named (pl ds)) (fd : Int) (N : Nat) :
    ACalls Tryz.prog 90 [wp b, .v (.int .i64 fd), .v (.int .u64 (N : Int))] (DSt b ds) (fun t S => t = .tup [sv (readV fd (N : Int) (pl ds)).1, .v (.int .i64 (readV fd (N : Int) (pl ds)).2)] ∧ S = DSt b { ds with stdin := (readP fd (N : Int) (pl ds)).stdin, opn := (readP fd (N : Int) (pl ds)).opn }) := by
 have hw1 := hw
 obtain ⟨ho, htr, htx, hfl, hpl, hsi, hnf⟩ := hw
 have ho : ds.opn.length = 19 := ho
 have htr : ds.trace.length ≤ n := htr
 have hsi : ds.stdin.length ≤ n := hsi
 have hnf : ds.files.length ≤ n := by have h := hnf; unfold pl at h; rwa [List.length_map] at h
 have htxt : ∀ e ∈ ds.trace, e.text.length ≤ n := htx
 have hplx : ∀ d ∈ ds.opn, d.place ≤ n := hpl
 refine ai Tryz.func90 Tryz.ntmps90 fun X w0 => ?_
 refine rs (y2 ?_)
 refine nl (rs (y2 ?_))
 refine ka (kind56 b ds n hw1 hn fd) ?_
 rintro t15 S15 ⟨rfl, rfl⟩
 refine y1 ?_
 refine nl (sq (rs (y2 (nl ?_))))
 refine cq (fun h0t => ?_) fun h0f => ?_
 ·
  have hk1 : kindP fd (pl ds) = 1 := h0t
  refine rs (y6 ?_)
  refine nl (sq (rs (y2 ?_)))
  refine Y1 (Yv.convN_u64 rfl Tryz.underlying3 kd_29 eV (fun hg => by omega)) ?_
  refine y1 (nl ?_)
  refine cq (fun _ => ?_) fun _ => ?_
  ·
   refine rg (y1 ?_)
   refine Y1 (Yv.convN_i64 rfl Tryz.underlying29 kd_3 eV (fun hg => by omega)) ?_
   refine y1 ?_
   refine nl (rs (y5 ?_))
   refine Y1 (Yv.sliceL rfl st_9 eV Bound.none_ (Bound.some_ eV (fun hg => rfl)) (fun hg => ⟨by omega, by omega⟩)) ?_
   refine y1 ?_
   refine nl (rs (y6 ?_))
   refine Y1 (Yv.sliceL rfl st_9 eV (Bound.some_ eV (fun hg => rfl)) Bound.none_ (fun hg => ⟨by omega, by omega⟩)) ?_
   refine y3 ?_
   refine nl (rs (y4 (nl ?_)))
   refine rt ?_
   have e1 : readV fd (N : Int) (pl ds) = (ds.stdin.take N, (N : Int)) := by
    unfold readV
    rw [if_pos hk1]
    show (ds.stdin.take N, ((ds.stdin.take N).length : Int)) = _
    rw [List.length_take, Nat.min_eq_left (by omega)]
   have e2 : readP fd (N : Int) (pl ds) = { pl ds with stdin := ds.stdin.drop N } := by
    unfold readP
    rw [if_pos hk1]
    rfl
   have e3 : (ds.stdin.drop N).take (ds.stdin.length - N) = ds.stdin.drop N := List.take_of_length_le (by rw [List.length_drop]; omega)
   rw [e1, e2]
   exact ⟨rfl, congrArg (fun z => DSt b { ds with stdin := z }) e3⟩
  ·refine sp (rs (y5 ?_))
   refine Y1 (Yv.sliceL rfl st_9 eV Bound.none_ (Bound.some_ eV (fun hg => rfl)) (fun hg => ⟨by omega, by omega⟩)) ?_
   refine y1 ?_
   refine nl (rs (y6 ?_))
   refine Y1 (Yv.sliceL rfl st_9 eV (Bound.some_ eV (fun hg => rfl)) Bound.none_ (fun hg => ⟨by omega, by omega⟩)) ?_
   refine y3 ?_
   refine nl (rs (y4 (nl ?_)))
   refine rt ?_
   have e1 : readV fd (N : Int) (pl ds) = (ds.stdin.take ds.stdin.length, (ds.stdin.length : Int)) := by
    unfold readV
    rw [if_pos hk1]
    show (ds.stdin.take N, ((ds.stdin.take N).length : Int)) = _
    rw [List.take_of_length_le (show ds.stdin.length ≤ N by omega), List.take_length]
   have e2 : readP fd (N : Int) (pl ds) = { pl ds with stdin := ds.stdin.drop N } := by
    unfold readP
    rw [if_pos hk1]
    rfl
   have e3 : (ds.stdin.drop ds.stdin.length).take (ds.stdin.length - ds.stdin.length) = ds.stdin.drop N := by rw [Nat.sub_self, List.take_zero, List.drop_of_length_le (by omega)]
   rw [e1, e2]
   exact ⟨rfl, congrArg (fun z => DSt b { ds with stdin := z }) e3⟩
 refine sp (sq (rs (y2 (nl ?_))))
 refine cq (fun h2t => ?_) fun h2f => ?_
 ·
  have hk4 : ¬ kindP fd (pl ds) = 4 := by simpa using h2t
  refine rs (y2 (nl ?_))
  refine rt ?_
  have e1 : readV fd (N : Int) (pl ds) = ([], -9) := by unfold readV; rw [if_neg h0f, if_neg hk4]
  have e2 : readP fd (N : Int) (pl ds) = pl ds := by unfold readP; rw [if_neg h0f, if_neg hk4]
  rw [e1, e2]
  exact ⟨rfl, rfl⟩
 have hk4 : kindP fd (pl ds) = 4 := by simpa using h2f
 refine sp ?_
 obtain ⟨hf0, hf1, hfl', hmem, hke⟩ := kind_in hnm (fd := fd) (by omega)
 obtain ⟨j, rfl⟩ : ∃ j : Nat, fd = (j : Int) := ⟨fd.toNat, by omega⟩
 have hsome := hnm.2 _ hmem (.inl (by rw [← hke]; exact hk4))
 have hsome : (getP (ds.opn.getD j default).name (pl ds).files).isSome = true := hsome
 obtain ⟨q, hfq, hq, hqn, hqg, hqp⟩ := (findP_get (name := (ds.opn.getD j default).name) (l := (pl ds).files)).resolve_left (fun h => by rw [h.2] at hsome; cases hsome)
 have hq : q < ds.files.length := by have h := hq; unfold pl at h; rwa [List.length_map] at h
 have hqg : getP (ds.opn.getD j default).name (pl ds).files = some (ds.files.getD q default).bytes := by
  rw [hqg]
  unfold pl
  rw [nb_at hq]
  rfl
 have hjl : j < ds.opn.length := by omega
 have hpj : (ds.opn.getD j default).place ≤ n := hplx _ (getD_mem' hjl)
 have hfb : (ds.files.getD q default).bytes.length ≤ n := hfl (nb (ds.files.getD q default)) (List.mem_map_of_mem (getD_mem' hq))
 have hrf := read_file (N := N) rfl hk4 hq hqg
 refine AW.mid (α := Unit) (fun _ => [(0, true, wp b), (1, true, zv j), (2, true, .v (.int .u64 (N : Int))), (11, true, .v (.slice (ds.files.getD q default).A (ds.files.getD q default).bytes.length (ds.files.getD q default).c))]) (fun _ => DSt b ds) (fun _ => True) ?_ ?_
 ·
  refine AW.regionP rfl ?_
  refine tp 0 ?_
  refine tp 1 ?_
  refine tp 2 ?_
  refine tp 4 ?_
  refine tp 5 ?_
  refine tp 6 ?_
  refine tp 7 ?_
  refine tp 9 ?_
  refine wp2 3 8 ?_ ?_
  ·
   refine y1 (nl ?_)
   refine op 8 ?_
   refine y1 (nl ?_)
   refine op 10 ?_
   refine Y1 (ix (j := j) (hj := fun hg => o2)) (nl ?_)
   refine op 11 ?_
   refine y1 (nl ?_)
   refine op 12 ?_
   refine Y1 (lw (hr := fun hg => dnm_at og)) (nl ?_)
   refine op 13 ?_
   refine ka (find34 b ds n hw1 hn (ds.opn.getD j default).name) ?_
   rintro t61 S61 ⟨rfl, rfl⟩
   rw [hfq]
   refine nl ?_
   refine op 14 ?_
   refine Y1 (ix (j := q) (hj := fun hg => o2)) (nl ?_)
   refine op 15 ?_
   refine y1 (nl ?_)
   refine op 16 ?_
   refine Y1 (lw (hr := fun hg => fby_at og)) (nl ?_)
   refine op 17 ?_
   refine y1 (nl ?_)
   refine dn ?_
   exact ⟨(), trivial, sbZ, rfl⟩
  ·
   refine y1 (nl ?_)
   refine tp 10 ?_
   refine tp 11 ?_
   refine wp2 3 12 ?_ ?_
   ·
    refine y1 (nl ?_)
    refine op 12 ?_
    refine Y1 (lw (hr := fun hg => dnm_at og)) (nl ?_)
    refine op 13 ?_
    refine ka (find34 b ds n hw1 hn (ds.opn.getD j default).name) ?_
    rintro t61 S61 ⟨rfl, rfl⟩
    rw [hfq]
    refine nl ?_
    refine op 14 ?_
    refine Y1 (ix (j := q) (hj := fun hg => o2)) (nl ?_)
    refine op 15 ?_
    refine y1 (nl ?_)
    refine op 16 ?_
    refine Y1 (lw (hr := fun hg => fby_at og)) (nl ?_)
    refine op 17 ?_
    refine y1 (nl ?_)
    refine dn ?_
    exact ⟨(), trivial, sbZ, rfl⟩
   ·
    refine Y1 (lw (hr := fun hg => dnm_at og)) (nl ?_)
    refine wp2 3 13 ?_ ?_
    ·
     refine y1 (nl ?_)
     refine op 13 ?_
     refine ka (find34 b ds n hw1 hn (ds.opn.getD j default).name) ?_
     rintro t61 S61 ⟨rfl, rfl⟩
     rw [hfq]
     refine nl ?_
     refine op 14 ?_
     refine Y1 (ix (j := q) (hj := fun hg => o2)) (nl ?_)
     refine op 15 ?_
     refine y1 (nl ?_)
     refine op 16 ?_
     refine Y1 (lw (hr := fun hg => fby_at og)) (nl ?_)
     refine op 17 ?_
     refine y1 (nl ?_)
     refine dn ?_
     exact ⟨(), trivial, sbZ, rfl⟩
    ·
     refine ka (find34 b ds n hw1 hn (ds.opn.getD j default).name) ?_
     rintro t61 S61 ⟨rfl, rfl⟩
     rw [hfq]
     refine nl ?_
     refine op 3 ?_
     refine y1 (nl ?_)
     refine op 14 ?_
     refine Y1 (ix (j := q) (hj := fun hg => o2)) (nl ?_)
     refine op 15 ?_
     refine y1 (nl ?_)
     refine op 16 ?_
     refine Y1 (lw (hr := fun hg => fby_at og)) (nl ?_)
     refine op 17 ?_
     refine y1 (nl ?_)
     refine dn ?_
     exact ⟨(), trivial, sbZ, rfl⟩
 ·
  rintro _ hmid
  refine rs (y1 (nl ?_))
  refine AW.rowNil 5 1 ?_
  refine AW.perm (List.perm_append_singleton _ _).symm ?_
  refine sq (bk ?_)
  refine AW.loop3 (fun (k : Nat) (A : Option Addr) (c : Nat) => [(0, true, wp b), (1, true, zv j), (2, true, .v (.int .u64 (N : Int))), (11, true, .v (.slice (ds.files.getD q default).A (ds.files.getD q default).bytes.length (ds.files.getD q default).c)), (12, true, .v (.slice A k c))]) (fun (k : Nat) (A : Option Addr) (c : Nat) => (.row A k c 5 1 ((((ds.files.getD q default).bytes.drop (ds.opn.getD j default).place).take k).map u8) :: DSp b ds j ((ds.opn.getD j default).place + k))) (fun (k : Nat) (A : Option Addr) (c : Nat) => (ds.opn.getD j default).place + k ≤ max (ds.opn.getD j default).place (ds.files.getD q default).bytes.length ∧ k ≤ N) (fun (k : Nat) (A : Option Addr) (c : Nat) => N - k) 0 none 0 ?_ ?_ ?_ ?_
  ·exact ⟨Nat.le_max_left _ _, Nat.zero_le _⟩
  ·exact sbZ
  ·exact congrArg (fun z => _ :: z) (dsp_self hjl).symm
  ·
   intro k A c hinv
   obtain ⟨hk1, hk2⟩ := hinv
   refine sq (rs (y5 ?_))
   refine Y1 (ix (j := j) (hj := fun hg => ⟨rfl, by show j < (ds.opn.set j _).length; rw [List.length_set]; exact hjl⟩)) ?_
   refine y1 ?_
   refine Y1 (lw (hr := fun hg => dpl_set (by omega))) ?_
   refine y6 ?_
   refine gT (Yv.convN_u64 rfl Tryz.underlying3 kd_29 (Eg rfl rfl id) (fun hg => by first | omega | (simp only [Bool.and_eq_true, Bool.or_eq_false_iff, Bool.not_eq_true', Bool.not_eq_false', decide_eq_true_eq, decide_eq_false_iff_not] at hg; omega))) ?_
   refine y3 (nl ?_)
   refine cq (fun h3t => ?_) fun h3f => ?_
   ·
    replace h3t := sm h3t
    have h3p : (((ds.opn.getD j default).place + k : Nat) : Int) < ((ds.files.getD q default).bytes.length : Int) := h3t.1
    have hlt : (ds.opn.getD j default).place + k < (ds.files.getD q default).bytes.length := by omega
    refine sp (bk (rs (y7 ?_)))
    refine Y1 (ix (j := j) (hj := fun hg => ⟨rfl, by show j < (ds.opn.set j _).length; rw [List.length_set]; exact hjl⟩)) ?_
    refine y1 ?_
    refine Y1 (lw (hr := fun hg => dpl_set (by omega))) ?_
    refine Y1 (Yv.indexRow (i := q + 5) (j := (ds.opn.getD j default).place + k) rfl ss_23 (dfile_rowp (b := b) hq) eV eV (fun hg => ⟨rfl, by omega⟩)) ?_
    refine Y1 (Yv.loadEp (i := q + 5) rfl ag_5 (dfile_rowp (b := b) hq) eV (fun hg => byte_at (by omega))) ?_
    refine AWL.buildSlice1 rfl rfl (B rfl) rfl el_23 rfl (evsC (E rfl rfl) evs0) nB rfl rfl ?_
    refine AWL.appendRow (i := 0) rfl rfl (B rfl) rfl el_23 (B rfl) rfl (E rfl rfl) (SrcT.sl so_23 (B rfl) (E rfl rfl) rfl) (by unfold maxLen; omega) (by omega) (fun A96 c96 => ?_)
    refine y1 (nl ?_)
    refine AW.eqS (S' := .row A96 (k + 1) c96 5 1 ((((ds.files.getD q default).bytes.drop (ds.opn.getD j default).place).take (k + 1)).map u8) :: DSp b ds j ((ds.opn.getD j default).place + k)) (by
     rw [← take_step hlt]
     rfl) ?_
    refine rg (y5 ?_)
    refine Y1 (ix (j := j) (hj := fun hg => ⟨rfl, by show j < (ds.opn.set j _).length; rw [List.length_set]; exact hjl⟩)) ?_
    refine y1 ?_
    refine Y1 (lw (hr := fun hg => dpl_set (by omega))) ?_
    refine y1 ?_
    refine Y1 (ix (j := j) (hj := fun hg => ⟨rfl, by show j < (ds.opn.set j _).length; rw [List.length_set]; exact hjl⟩)) ?_
    refine y1 ?_
    refine AWL.storeEp1 (i := 3) rfl rfl rfl ag_3 rfl (E rfl rfl) (E rfl rfl) rfl rfl (by rw [len_desc, List.length_set]; omega) (nl ?_)
    refine ⟨k + 1, A96, c96, ⟨by omega, by omega⟩, by omega, sbZ, ?_⟩
    show _ = _ :: DSp b ds j ((ds.opn.getD j default).place + k + 1)
    rw [← dsp_step hjl]
    rfl
   ·replace h3f := sm h3f
    have h3f : ¬ (((ds.opn.getD j default).place + k : Nat) : Int) < ((ds.files.getD q default).bytes.length : Int) ∨ ¬ (k : Int) < (N : Int) := h3f
    refine xt (rs (y1 ?_))
    refine Y1 (Yv.bytesStrRow (i := 0) rfl by_23 st_9 rfl eV) ?_
    refine y4 (nl ?_)
    refine AW.dropAt 0 ?_
    refine rt ?_
    have hkl : k ≤ ((ds.files.getD q default).bytes.drop (ds.opn.getD j default).place).length := by rw [List.length_drop]; omega
    have ek : ((ds.files.getD q default).bytes.drop (ds.opn.getD j default).place).take N = ((ds.files.getD q default).bytes.drop (ds.opn.getD j default).place).take k := by
     by_cases hN : N = k
     ·rw [hN]
     ·rw [List.take_of_length_le (by rw [List.length_drop]; omega), List.take_of_length_le (by rw [List.length_drop]; omega)]
    rw [hrf.1, hrf.2, ek, List.length_take, Nat.min_eq_left hkl]
    exact ⟨rfl, rfl⟩

def dsW (ds : DS) (j q : Nat) (B : List UInt8) (A : Option Addr) (c p : Nat) : DS :=
 { ds with files := ds.files.set q ⟨(ds.files.getD q default).name, B, A, c⟩, opn := ds.opn.set j (atP (ds.opn.getD j default) p) }
theorem file_self {l : List FileR} {q : Nat} (h : q < l.length) : l.set q ⟨(l.getD q default).name, (l.getD q default).bytes, (l.getD q default).A, (l.getD q default).c⟩ = l := set_getD h
theorem dsw_self {ds : DS} {j q : Nat} (hj : j < ds.opn.length) (hq : q < ds.files.length) : dsW ds j q (ds.files.getD q default).bytes (ds.files.getD q default).A (ds.files.getD q default).c (ds.opn.getD j default).place = ds := by
 unfold dsW
 rw [atP_self, set_getD hj, file_self hq]
theorem fby_set {l : List FileR} {q : Nat} {f : FileR} (h : q < l.length) : ((l.set q f).flatMap fileCells)[q * 2 + 1]? = some (.v (.slice f.A f.bytes.length f.c)) := by
 rw [fby_at (by rw [List.length_set]; exact h), getD_set h]
theorem dsw_row {b j q : Nat} {ds : DS} {B : List UInt8} {A : Option Addr} {c p : Nat} (hq : q < ds.files.length) : (DSt b (dsW ds j q B A c p))[q + 4]? = some (.row A B.length c 5 1 (B.map u8)) := by
 rw [dfile_row (by show q < (ds.files.set q _).length; rw [List.length_set]; exact hq)]
 show some (fileRow ((ds.files.set q _).getD q default)) = _
 rw [getD_set hq]
 rfl
theorem dst_setrow {b q : Nat} {ds : DS} (r : Ent) : (DSt b ds).set (q + 4) r = .box b 115 (dCells ds) :: .row ds.lA ds.files.length ds.lc 163 2 (ds.files.flatMap fileCells) :: .row ds.dA ds.opn.length ds.dc 137 3 (ds.opn.flatMap descCells) :: .row ds.tA ds.trace.length ds.tc 149 3 (ds.trace.flatMap evCells) :: (ds.files.map fileRow).set q r := rfl
theorem dsw_byte {b j q i : Nat} {ds : DS} {B : List UInt8} {A : Option Addr} {c p : Nat} (x : UInt8) (hq : q < ds.files.length) (hi : i < B.length) :
    (DSt b (dsW ds j q B A c p)).set (q + 4) (.row A B.length c 5 1 ((B.map u8).set (i * 1) (u8 x))) = DSt b (dsW ds j q (B.set i x) A c p) := by
 rw [dst_setrow, Nat.mul_one]
 have e1 : ((dsW ds j q B A c p).files.map fileRow).set q (.row A B.length c 5 1 ((B.map u8).set i (u8 x))) = (dsW ds j q (B.set i x) A c p).files.map fileRow := by
  unfold dsW
  simp only
  rw [List.map_set, List.map_set, List.set_set]
  congr 1
  unfold fileRow
  simp only [List.length_set, List.map_set]
 have e2 : (dsW ds j q (B.set i x) A c p).files.flatMap fileCells = (dsW ds j q B A c p).files.flatMap fileCells := by
  unfold dsW
  simp only
  have a1 := fset_all (l := ds.files) (j := q) hq ⟨(ds.files.getD q default).name, B, A, c⟩
  have a2 := fset_all (l := ds.files) (j := q) hq ⟨(ds.files.getD q default).name, B.set i x, A, c⟩
  rw [← a1, ← a2]
  unfold fileCells
  simp only [List.length_set]
 rw [e1]
 unfold DSt
 rw [e2]
 unfold dsW dCells
 simp only [List.length_set]
theorem dsw_grow {b j q : Nat} {ds : DS} {B : List UInt8} {A A' : Option Addr} {c c' p : Nat} (hq : q < ds.files.length) :
    ((DSt b (dsW ds j q B A c p)).set (q + 4) (.row A' (B.length + 1) c' 5 1 (B.map u8 ++ [.v (.int .u8 0)]))).set 1 (.row ds.lA (ds.files.set q ⟨(ds.files.getD q default).name, B, A, c⟩).length ds.lc 163 2 (((ds.files.set q ⟨(ds.files.getD q default).name, B, A, c⟩).flatMap fileCells).set (q * 2 + 1) (.v (.slice A' (B.length + 1) c')))) = DSt b (dsW ds j q (B ++ [0]) A' c' p) := by
 rw [dst_setrow]
 have e0 := fset_bytes (l := ds.files.set q ⟨(ds.files.getD q default).name, B, A, c⟩) (j := q) (by rw [List.length_set]; exact hq) A' (B ++ [0]) c'
 simp only [getD_set hq, List.set_set] at e0
 have e1 : ((dsW ds j q B A c p).files.map fileRow).set q (.row A' (B.length + 1) c' 5 1 (B.map u8 ++ [.v (.int .u8 0)])) = (dsW ds j q (B ++ [0]) A' c' p).files.map fileRow := by
  unfold dsW
  simp only
  rw [List.map_set, List.map_set, List.set_set]
  congr 1
  unfold fileRow
  simp only [List.length_append, List.map_append]
  rfl
 rw [e1]
 rw [List.length_append] at e0
 show _ :: Ent.row _ _ _ _ _ (((ds.files.set q ⟨(ds.files.getD q default).name, B, A, c⟩).flatMap fileCells).set (q * 2 + 1) (.v (.slice A' (B.length + 1) c'))) :: _ = _
 rw [show B.length + 1 = B.length + [(0 : UInt8)].length from rfl, e0]
 unfold DSt dsW dCells
 simp only [List.length_set]
theorem dsw_place {b j q : Nat} {ds : DS} {B : List UInt8} {A : Option Addr} {c p : Nat} (hj : j < ds.opn.length) :
    (DSt b (dsW ds j q B A c p)).set 2 (.row ds.dA (ds.opn.set j (atP (ds.opn.getD j default) p)).length ds.dc 137 3 (((ds.opn.set j (atP (ds.opn.getD j default) p)).flatMap descCells).set (j * 3 + 2) (.v (.int .i64 ((p : Int) + 1))))) = DSt b (dsW ds j q B A c (p + 1)) := by
 have e := dset_place (l := ds.opn.set j (atP (ds.opn.getD j default) p)) (j := j) (by rw [List.length_set]; exact hj) (p + 1)
 simp only [getD_set hj, List.set_set] at e
 rw [show ((p : Int) + 1) = ((p + 1 : Nat) : Int) by omega, e]
 unfold DSt dsW dCells
 simp only [List.length_set]
 rfl
theorem padTo_succ {B : List UInt8} {m : Nat} (h : B.length ≤ m) : padTo B m ++ [0] = padTo B (m + 1) := by
 unfold padTo
 rw [show m + 1 - B.length = (m - B.length) + 1 by omega, List.replicate_succ', List.append_assoc]
theorem padTo_at {B : List UInt8} {m : Nat} (h : B.length ≤ m) : (padTo B m).length = m := by
 rw [padTo_len]
 omega
theorem padTo_out {B : List UInt8} {m p : Nat} (h1 : B.length ≤ m) (h2 : m ≤ p + 1 ∨ m = B.length) (h3 : p < m) : padTo B m = padTo B (p + 1) := by
 rcases h2 with h | h
 ·rw [show m = p + 1 by omega]
 rw [padTo_id (by omega), padTo_id (by omega)]
theorem take_c {s : List UInt8} {k : Nat} (h : k < s.length) : s.take (k + 1) = s.take k ++ [s.getD k 0] := by
 rw [List.take_add_one, List.getElem?_eq_getElem h, List.getD_eq_getElem?_getD, List.getElem?_eq_getElem h]
 rfl
theorem take_cl {s : List UInt8} {k : Nat} (h : k ≤ s.length) : (s.take k).length = k := by
 rw [List.length_take]
 omega
theorem wr_le {l : List UInt8} {p : Nat} {s : List UInt8} : (wr l p s).length ≤ max l.length (p + s.length) := by
 rw [wr_len]
 split <;> omega
theorem write_file {ds : DS} {j q : Nat} {s : List UInt8} {A tA : Option Addr} {c tc : Nat} (hj : j < ds.opn.length) (hk : kindP (j : Int) (pl ds) = 5) (hq : q < ds.files.length) (hn : (ds.files.getD q default).name = (ds.opn.getD j default).name)
    (hg : getP (ds.opn.getD j default).name (pl ds).files = some (ds.files.getD q default).bytes) (hp : ∀ x, putP (ds.opn.getD j default).name x (pl ds).files = (pl ds).files.set q ((ds.opn.getD j default).name, x)) :
    pl { dsW ds j q (wr (ds.files.getD q default).bytes (ds.opn.getD j default).place s) A c ((ds.opn.getD j default).place + s.length) with trace := sayF 3 (ds.opn.getD j default).name s ds.trace, tA := tA, tc := tc } = writeP (j : Int) s (pl ds) := by
 have e : ((pl ds).opn.getD (j : Int).toNat default) = ds.opn.getD j default := rfl
 have ef : (dsW ds j q (wr (ds.files.getD q default).bytes (ds.opn.getD j default).place s) A c ((ds.opn.getD j default).place + s.length)).files.map nb = (pl ds).files.set q ((ds.opn.getD j default).name, wr (ds.files.getD q default).bytes (ds.opn.getD j default).place s) := by
  unfold dsW pl
  simp only
  rw [List.map_set, ← hn]
  rfl
 unfold writeP
 rw [hk, if_neg (by decide), if_neg (by decide), if_pos rfl, e, hg]
 by_cases hs : s = []
 ·rw [if_pos hs]
  subst hs
  unfold pl
  simp only
  rw [ef]
  unfold dsW
  simp only [List.length_nil, Nat.add_zero]
  rw [atP_self, set_getD hj, sayF_nil, wr_nil]
  have e2 : (pl ds).files.set q ((ds.opn.getD j default).name, (ds.files.getD q default).bytes) = (pl ds).files := by
   have hq' : q < (pl ds).files.length := by unfold pl; rw [List.length_map]; exact hq
   have e3 : (pl ds).files.getD q default = ((ds.opn.getD j default).name, (ds.files.getD q default).bytes) := by
    unfold pl
    rw [nb_at hq, ← hn]
    rfl
   rw [← e3, set_getD hq']
  rw [e2]
  rfl
 rw [if_neg hs, hp]
 unfold pl
 simp only
 rw [ef, wr_cons hs]
 rfl
theorem pb_wrote {n j q : Nat} {ds : DS} {B : List UInt8} {A : Option Addr} {c p m : Nat} (h : PB n (pl ds)) (hm : n ≤ m) (hB : B.length ≤ m) (hp : p ≤ m) : PB m (pl (dsW ds j q B A c p)) := by
 refine ⟨?_, Nat.le_trans h.tr hm, fun e he => Nat.le_trans (h.txt e he) hm, fun f hf => ?_, fun d hd => ?_, Nat.le_trans h.sin hm, ?_⟩
 ·show (ds.opn.set j _).length = 19
  rw [List.length_set]
  exact h.opn
 ·have hf : f ∈ (ds.files.set q _).map nb := hf
  obtain ⟨x, hx, rfl⟩ := List.mem_map.1 hf
  rcases List.mem_or_eq_of_mem_set hx with hx | rfl
  ·exact Nat.le_trans (h.fl (nb x) (List.mem_map_of_mem hx)) hm
  exact hB
 ·have hd : d ∈ ds.opn.set j _ := hd
  rcases List.mem_or_eq_of_mem_set hd with hd | rfl
  ·exact Nat.le_trans (h.pl d hd) hm
  exact hp
 show ((ds.files.set q _).map nb).length ≤ m
 have := h.nf
 unfold pl at this
 rw [List.length_map] at this
 rw [List.length_map, List.length_set]
 omega

theorem SysWrite40 (b : Nat) (ds : DS) (n : Nat) (hw : PB n (pl ds)) (hn : n ≤ 549755813888) (hnm : Named (pl ds)) (fd : Int) (s : List UInt8) (hs : s.length ≤ 549755813888) :
    ACalls Tryz.prog 91 [wp b, .v (.int .i64 fd), sv s] (DSt b ds) (fun t S => t = .v (.int .i64 (writeV fd s (pl ds))) ∧ ∃ ds', pl ds' = writeP fd s (pl ds) ∧ S = DSt b ds') := by
 have hw1 := hw
 obtain ⟨ho, htr, htx, hfl, hpl, hsi, hnf⟩ := hw
 have ho : ds.opn.length = 19 := ho
 have htr : ds.trace.length ≤ n := htr
 have hsi : ds.stdin.length ≤ n := hsi
 have hnf : ds.files.length ≤ n := by have h := hnf; unfold pl at h; rwa [List.length_map] at h
 have htxt : ∀ e ∈ ds.trace, e.text.length ≤ n := htx
 have hplx : ∀ d ∈ ds.opn, d.place ≤ n := hpl
 refine ai Tryz.func91 Tryz.ntmps91 fun X w0 => ?_
 refine rs (y1 ?_)
 refine nl (sq (rs (y2 ?_)))
 refine ka (kind56 b ds n hw1 (by omega) fd) ?_
 rintro t11 S11 ⟨rfl, rfl⟩
 refine nl (bk (rs (y2 (nl ?_))))
 refine cq (fun h0t => ?_) fun h0f => ?_
 ·
  refine rg (y2 ?_)
  refine ka (say57 b ds n hw1 (by omega) 1 [] s (by omega)) ?_
  rintro t16 S16 ⟨rfl, A16, c16, rfl⟩
  refine nl (rs (y3 (nl ?_)))
  refine rt ?_
  refine ⟨by unfold writeV; rw [if_pos (.inl h0t)]; rfl, { ds with trace := sayF 1 [] s ds.trace, tA := A16, tc := c16 }, ?_, rfl⟩
  unfold writeP
  rw [if_pos h0t]
  rfl
 refine rs (y2 (nl ?_))
 refine cq (fun h1t => ?_) fun h1f => ?_
 ·
  refine rg (y2 ?_)
  refine ka (say57 b ds n hw1 (by omega) 2 [] s (by omega)) ?_
  rintro t21 S21 ⟨rfl, A21, c21, rfl⟩
  refine nl (rs (y3 (nl ?_)))
  refine rt ?_
  refine ⟨by unfold writeV; rw [if_pos (.inr (.inl h1t))]; rfl, { ds with trace := sayF 2 [] s ds.trace, tA := A21, tc := c21 }, ?_, rfl⟩
  unfold writeP
  rw [if_neg h0f, if_pos h1t]
  rfl
 refine rs (y2 (nl ?_))
 refine cq (fun h2t => ?_) fun h2f => ?_
 ·
  have hk5 : kindP fd (pl ds) = 5 := h2t
  obtain ⟨hf0, hf1, hfl', hmem, hke⟩ := kind_in hnm (fd := fd) (by rw [hk5]; decide)
  obtain ⟨j, rfl⟩ : ∃ j : Nat, fd = (j : Int) := ⟨fd.toNat, by omega⟩
  have hsome := hnm.2 _ hmem (.inr (by rw [← hke]; exact hk5))
  have hsome : (getP (ds.opn.getD j default).name (pl ds).files).isSome = true := hsome
  obtain ⟨q, hfq, hq, hqn, hqg, hqp⟩ := (findP_get (name := (ds.opn.getD j default).name) (l := (pl ds).files)).resolve_left (fun h => by rw [h.2] at hsome; cases hsome)
  have hq : q < ds.files.length := by have h := hq; unfold pl at h; rwa [List.length_map] at h
  have hqn : (ds.files.getD q default).name = (ds.opn.getD j default).name := by have h := hqn; unfold pl at h; rwa [nb_at hq] at h
  have hqg : getP (ds.opn.getD j default).name (pl ds).files = some (ds.files.getD q default).bytes := by
   rw [hqg]
   unfold pl
   rw [nb_at hq]
   rfl
  have hjl : j < ds.opn.length := by omega
  have hpj : (ds.opn.getD j default).place ≤ n := hplx _ (getD_mem' hjl)
  have hfb : (ds.files.getD q default).bytes.length ≤ n := hfl (nb (ds.files.getD q default)) (List.mem_map_of_mem (getD_mem' hq))
  refine rs (y6 ?_)
  refine Y1 (ix (j := j) (hj := fun hg => o2)) ?_
  refine y1 ?_
  refine Y1 (lw (hr := fun hg => dnm_at og)) ?_
  refine ka (find34 b ds n hw1 (by omega) (ds.opn.getD j default).name) ?_
  rintro t33 S33 ⟨rfl, rfl⟩
  rw [hfq]
  refine y1 ?_
  refine nl (sq (rs (y1 ?_)))
  refine nl (bk ?_)
  refine AW.loop3 (fun (k : Nat) (A : Option Addr) (c : Nat) => [(0, true, wp b), (1, true, zv j), (2, true, sv s), (7, true, zv q), (8, true, zv k)]) (fun (k : Nat) (A : Option Addr) (c : Nat) => (DSt b (dsW ds j q (wr (ds.files.getD q default).bytes (ds.opn.getD j default).place (s.take k)) A c ((ds.opn.getD j default).place + k)))) (fun (k : Nat) (A : Option Addr) (c : Nat) => k ≤ s.length) (fun (k : Nat) (A : Option Addr) (c : Nat) => s.length - k) 0 ((ds.files.getD q default).A) ((ds.files.getD q default).c) ?_ ?_ ?_ ?_
  ·exact Nat.zero_le _
  ·exact sbZ
  ·rw [List.take_zero, wr_nil, Nat.add_zero, dsw_self hjl hq]
  ·
   intro k A c hinv
   have htk := take_cl hinv
   have hwl := wr_le (l := (ds.files.getD q default).bytes) (p := (ds.opn.getD j default).place) (s := s.take k)
   rw [htk] at hwl
   refine sq (rs (y4 (nl ?_)))
   refine cq (fun _ => ?_) fun _ => ?_
   ·
    refine sp (sq (bk (sq (bk ?_))))
    refine AW.loop3 (fun (m : Nat) (A1 : Option Addr) (c1 : Nat) => [(0, true, wp b), (1, true, zv j), (2, true, sv s), (7, true, zv q), (8, true, zv k)]) (fun (m : Nat) (A1 : Option Addr) (c1 : Nat) => (DSt b (dsW ds j q (padTo (wr (ds.files.getD q default).bytes (ds.opn.getD j default).place (s.take k)) m) A1 c1 ((ds.opn.getD j default).place + k)))) (fun (m : Nat) (A1 : Option Addr) (c1 : Nat) => (wr (ds.files.getD q default).bytes (ds.opn.getD j default).place (s.take k)).length ≤ m ∧ (m ≤ (ds.opn.getD j default).place + k + 1 ∨ m = (wr (ds.files.getD q default).bytes (ds.opn.getD j default).place (s.take k)).length)) (fun (m : Nat) (A1 : Option Addr) (c1 : Nat) => (ds.opn.getD j default).place + k + 1 - m) ((wr (ds.files.getD q default).bytes (ds.opn.getD j default).place (s.take k)).length) A c ?_ ?_ ?_ ?_
    ·exact ⟨Nat.le_refl _, .inr rfl⟩
    ·exact sbZ
    ·rw [padTo_id (Nat.le_refl _)]
    ·
     intro m A1 c1 hinm
     obtain ⟨hm1, hm2⟩ := hinm
     have hpm := padTo_at hm1
     refine sq (rq (q5 ?_))
     refine Q1 (ix (j := q) (hj := fun hg => ⟨rfl, by show q < (ds.files.set q _).length; rw [List.length_set]; exact hq⟩)) ?_
     refine q1 ?_
     refine Q1 (lw (hr := fun hg => fby_set hq)) ?_
     refine q6 ?_
     refine Q1 (ix (j := j) (hj := fun hg => ⟨rfl, by show j < (ds.opn.set j _).length; rw [List.length_set]; exact hjl⟩)) ?_
     refine q1 ?_
     refine Q1 (lw (hr := fun hg => dpl_set hjl)) ?_
     refine q1 (nq ?_)
     refine cq (fun h4t => ?_) fun h4f => ?_
     ·
      have hle : m ≤ (ds.opn.getD j default).place + k := by
       have h : ((padTo (wr (ds.files.getD q default).bytes (ds.opn.getD j default).place (s.take k)) m).length : Int) ≤ (((ds.opn.getD j default).place + k : Nat) : Int) := h4t
       omega
      refine sp (bk ?_)
      refine AW.regionP rfl ?_
      refine tp 0 ?_
      refine tp 1 ?_
      refine tp 2 ?_
      refine tp 4 ?_
      refine tp 5 ?_
      refine tp 6 ?_
      refine tp 7 ?_
      refine tp 9 ?_
      refine AWP.three (i := 3) (j := 8) (k := 13) (by kernel_rfl) rfl rfl rfl ?_ ?_ ?_
      ·
       refine y1 (nl ?_)
       refine wp2 8 13 ?_ ?_
       ·
        refine y1 (nl ?_)
        refine T1 (i := 10) rfl (freeIdxRow (i := 1) rfl ss_112 rfl (E rfl rfl) (E rfl rfl) ⟨rfl, by show q < (ds.files.set q _).length; rw [List.length_set]; exact hq⟩) ?_
        refine tp 11 ?_
        refine wp2 12 13 ?_ ?_
        ·
         refine Y1 (lw (hr := fun hg => fby_set hq)) (nl ?_)
         refine op 13 ?_
         refine AWL.buildSlice1 rfl rfl (B rfl) rfl el_23 rfl (evsC (E rfl rfl) evs0) nB rfl rfl (nl ?_)
         refine op 14 ?_
         refine AWL.appendRow (i := q + 4) rfl rfl (B rfl) rfl el_23 (B rfl) (dsw_row hq) (E rfl rfl) (SrcT.sl so_23 (B rfl) (E rfl rfl) rfl) (by rw [hpm]; unfold maxLen; omega) (by rw [hpm]; omega) (fun A72 c72 => ?_)
         refine nl ?_
         refine op 15 ?_
         refine Y1 (ix (j := q) (hj := fun hg => ⟨rfl, by show q < (ds.files.set q _).length; rw [List.length_set]; exact hq⟩)) (nl ?_)
         refine op 16 ?_
         refine y1 (nl ?_)
         refine op 17 ?_
         refine AWL.storeEp1 (i := 1) rfl rfl rfl ag_23 rfl (E rfl rfl) (E rfl rfl) rfl rfl (by rw [len_files]; show _ < (ds.files.set q _).length * 2; rw [List.length_set]; omega) (nl ?_)
         refine dn ?_
         refine ⟨m + 1, A72, c72, ⟨by omega, by omega⟩, by omega, sbZ, ?_⟩
         rw [← padTo_succ hm1, ← dsw_grow hq]
         rfl
        ·
         refine AWL.buildSlice1 rfl rfl (B rfl) rfl el_23 rfl (evsC (E rfl rfl) evs0) nB rfl rfl (nl ?_)
         refine op 12 ?_
         refine Y1 (lw (hr := fun hg => fby_set hq)) (nl ?_)
         refine op 14 ?_
         refine AWL.appendRow (i := q + 4) rfl rfl (B rfl) rfl el_23 (B rfl) (dsw_row hq) (E rfl rfl) (SrcT.sl so_23 (B rfl) (E rfl rfl) rfl) (by rw [hpm]; unfold maxLen; omega) (by rw [hpm]; omega) (fun A72 c72 => ?_)
         refine nl ?_
         refine op 15 ?_
         refine Y1 (ix (j := q) (hj := fun hg => ⟨rfl, by show q < (ds.files.set q _).length; rw [List.length_set]; exact hq⟩)) (nl ?_)
         refine op 16 ?_
         refine y1 (nl ?_)
         refine op 17 ?_
         refine AWL.storeEp1 (i := 1) rfl rfl rfl ag_23 rfl (E rfl rfl) (E rfl rfl) rfl rfl (by rw [len_files]; show _ < (ds.files.set q _).length * 2; rw [List.length_set]; omega) (nl ?_)
         refine dn ?_
         refine ⟨m + 1, A72, c72, ⟨by omega, by omega⟩, by omega, sbZ, ?_⟩
         rw [← padTo_succ hm1, ← dsw_grow hq]
         rfl
       ·
        refine AWL.buildSlice1 rfl rfl (B rfl) rfl el_23 rfl (evsC (E rfl rfl) evs0) nB rfl rfl (nl ?_)
        refine op 8 ?_
        refine y1 (nl ?_)
        refine op 10 ?_
        refine Y1 (ix (j := q) (hj := fun hg => ⟨rfl, by show q < (ds.files.set q _).length; rw [List.length_set]; exact hq⟩)) (nl ?_)
        refine op 11 ?_
        refine y1 (nl ?_)
        refine op 12 ?_
        refine Y1 (lw (hr := fun hg => fby_set hq)) (nl ?_)
        refine op 14 ?_
        refine AWL.appendRow (i := q + 4) rfl rfl (B rfl) rfl el_23 (B rfl) (dsw_row hq) (E rfl rfl) (SrcT.sl so_23 (B rfl) (E rfl rfl) rfl) (by rw [hpm]; unfold maxLen; omega) (by rw [hpm]; omega) (fun A72 c72 => ?_)
        refine nl ?_
        refine op 15 ?_
        refine Y1 (ix (j := q) (hj := fun hg => ⟨rfl, by show q < (ds.files.set q _).length; rw [List.length_set]; exact hq⟩)) (nl ?_)
        refine op 16 ?_
        refine y1 (nl ?_)
        refine op 17 ?_
        refine AWL.storeEp1 (i := 1) rfl rfl rfl ag_23 rfl (E rfl rfl) (E rfl rfl) rfl rfl (by rw [len_files]; show _ < (ds.files.set q _).length * 2; rw [List.length_set]; omega) (nl ?_)
        refine dn ?_
        refine ⟨m + 1, A72, c72, ⟨by omega, by omega⟩, by omega, sbZ, ?_⟩
        rw [← padTo_succ hm1, ← dsw_grow hq]
        rfl
      ·
       refine y1 (nl ?_)
       refine T1 (i := 10) rfl (freeIdxRow (i := 1) rfl ss_112 rfl (E rfl rfl) (E rfl rfl) ⟨rfl, by show q < (ds.files.set q _).length; rw [List.length_set]; exact hq⟩) ?_
       refine tp 11 ?_
       refine AWP.three (i := 3) (j := 12) (k := 13) (by kernel_rfl) rfl rfl rfl ?_ ?_ ?_
       ·
        refine y1 (nl ?_)
        refine wp2 12 13 ?_ ?_
        ·
         refine Y1 (lw (hr := fun hg => fby_set hq)) (nl ?_)
         refine op 13 ?_
         refine AWL.buildSlice1 rfl rfl (B rfl) rfl el_23 rfl (evsC (E rfl rfl) evs0) nB rfl rfl (nl ?_)
         refine op 14 ?_
         refine AWL.appendRow (i := q + 4) rfl rfl (B rfl) rfl el_23 (B rfl) (dsw_row hq) (E rfl rfl) (SrcT.sl so_23 (B rfl) (E rfl rfl) rfl) (by rw [hpm]; unfold maxLen; omega) (by rw [hpm]; omega) (fun A72 c72 => ?_)
         refine nl ?_
         refine op 15 ?_
         refine Y1 (ix (j := q) (hj := fun hg => ⟨rfl, by show q < (ds.files.set q _).length; rw [List.length_set]; exact hq⟩)) (nl ?_)
         refine op 16 ?_
         refine y1 (nl ?_)
         refine op 17 ?_
         refine AWL.storeEp1 (i := 1) rfl rfl rfl ag_23 rfl (E rfl rfl) (E rfl rfl) rfl rfl (by rw [len_files]; show _ < (ds.files.set q _).length * 2; rw [List.length_set]; omega) (nl ?_)
         refine dn ?_
         refine ⟨m + 1, A72, c72, ⟨by omega, by omega⟩, by omega, sbZ, ?_⟩
         rw [← padTo_succ hm1, ← dsw_grow hq]
         rfl
        ·
         refine AWL.buildSlice1 rfl rfl (B rfl) rfl el_23 rfl (evsC (E rfl rfl) evs0) nB rfl rfl (nl ?_)
         refine op 12 ?_
         refine Y1 (lw (hr := fun hg => fby_set hq)) (nl ?_)
         refine op 14 ?_
         refine AWL.appendRow (i := q + 4) rfl rfl (B rfl) rfl el_23 (B rfl) (dsw_row hq) (E rfl rfl) (SrcT.sl so_23 (B rfl) (E rfl rfl) rfl) (by rw [hpm]; unfold maxLen; omega) (by rw [hpm]; omega) (fun A72 c72 => ?_)
         refine nl ?_
         refine op 15 ?_
         refine Y1 (ix (j := q) (hj := fun hg => ⟨rfl, by show q < (ds.files.set q _).length; rw [List.length_set]; exact hq⟩)) (nl ?_)
         refine op 16 ?_
         refine y1 (nl ?_)
         refine op 17 ?_
         refine AWL.storeEp1 (i := 1) rfl rfl rfl ag_23 rfl (E rfl rfl) (E rfl rfl) rfl rfl (by rw [len_files]; show _ < (ds.files.set q _).length * 2; rw [List.length_set]; omega) (nl ?_)
         refine dn ?_
         refine ⟨m + 1, A72, c72, ⟨by omega, by omega⟩, by omega, sbZ, ?_⟩
         rw [← padTo_succ hm1, ← dsw_grow hq]
         rfl
       ·
        refine Y1 (lw (hr := fun hg => fby_set hq)) (nl ?_)
        refine wp2 3 13 ?_ ?_
        ·
         refine y1 (nl ?_)
         refine op 13 ?_
         refine AWL.buildSlice1 rfl rfl (B rfl) rfl el_23 rfl (evsC (E rfl rfl) evs0) nB rfl rfl (nl ?_)
         refine op 14 ?_
         refine AWL.appendRow (i := q + 4) rfl rfl (B rfl) rfl el_23 (B rfl) (dsw_row hq) (E rfl rfl) (SrcT.sl so_23 (B rfl) (E rfl rfl) rfl) (by rw [hpm]; unfold maxLen; omega) (by rw [hpm]; omega) (fun A72 c72 => ?_)
         refine nl ?_
         refine op 15 ?_
         refine Y1 (ix (j := q) (hj := fun hg => ⟨rfl, by show q < (ds.files.set q _).length; rw [List.length_set]; exact hq⟩)) (nl ?_)
         refine op 16 ?_
         refine y1 (nl ?_)
         refine op 17 ?_
         refine AWL.storeEp1 (i := 1) rfl rfl rfl ag_23 rfl (E rfl rfl) (E rfl rfl) rfl rfl (by rw [len_files]; show _ < (ds.files.set q _).length * 2; rw [List.length_set]; omega) (nl ?_)
         refine dn ?_
         refine ⟨m + 1, A72, c72, ⟨by omega, by omega⟩, by omega, sbZ, ?_⟩
         rw [← padTo_succ hm1, ← dsw_grow hq]
         rfl
        ·
         refine AWL.buildSlice1 rfl rfl (B rfl) rfl el_23 rfl (evsC (E rfl rfl) evs0) nB rfl rfl (nl ?_)
         refine wp2 3 14 ?_ ?_
         ·
          refine y1 (nl ?_)
          refine op 14 ?_
          refine AWL.appendRow (i := q + 4) rfl rfl (B rfl) rfl el_23 (B rfl) (dsw_row hq) (E rfl rfl) (SrcT.sl so_23 (B rfl) (E rfl rfl) rfl) (by rw [hpm]; unfold maxLen; omega) (by rw [hpm]; omega) (fun A72 c72 => ?_)
          refine nl ?_
          refine op 15 ?_
          refine Y1 (ix (j := q) (hj := fun hg => ⟨rfl, by show q < (ds.files.set q _).length; rw [List.length_set]; exact hq⟩)) (nl ?_)
          refine op 16 ?_
          refine y1 (nl ?_)
          refine op 17 ?_
          refine AWL.storeEp1 (i := 1) rfl rfl rfl ag_23 rfl (E rfl rfl) (E rfl rfl) rfl rfl (by rw [len_files]; show _ < (ds.files.set q _).length * 2; rw [List.length_set]; omega) (nl ?_)
          refine dn ?_
          refine ⟨m + 1, A72, c72, ⟨by omega, by omega⟩, by omega, sbZ, ?_⟩
          rw [← padTo_succ hm1, ← dsw_grow hq]
          rfl
         ·
          refine AWL.appendRow (i := q + 4) rfl rfl (B rfl) rfl el_23 (B rfl) (dsw_row hq) (E rfl rfl) (SrcT.sl so_23 (B rfl) (E rfl rfl) rfl) (by rw [hpm]; unfold maxLen; omega) (by rw [hpm]; omega) (fun A72 c72 => ?_)
          refine nl ?_
          refine op 3 ?_
          refine y1 (nl ?_)
          refine op 15 ?_
          refine Y1 (ix (j := q) (hj := fun hg => ⟨rfl, by show q < (ds.files.set q _).length; rw [List.length_set]; exact hq⟩)) (nl ?_)
          refine op 16 ?_
          refine y1 (nl ?_)
          refine op 17 ?_
          refine AWL.storeEp1 (i := 1) rfl rfl rfl ag_23 rfl (E rfl rfl) (E rfl rfl) rfl rfl (by rw [len_files]; show _ < (ds.files.set q _).length * 2; rw [List.length_set]; omega) (nl ?_)
          refine dn ?_
          refine ⟨m + 1, A72, c72, ⟨by omega, by omega⟩, by omega, sbZ, ?_⟩
          rw [← padTo_succ hm1, ← dsw_grow hq]
          rfl
       ·
        refine AWL.buildSlice1 rfl rfl (B rfl) rfl el_23 rfl (evsC (E rfl rfl) evs0) nB rfl rfl (nl ?_)
        refine wp2 3 12 ?_ ?_
        ·
         refine y1 (nl ?_)
         refine op 12 ?_
         refine Y1 (lw (hr := fun hg => fby_set hq)) (nl ?_)
         refine op 14 ?_
         refine AWL.appendRow (i := q + 4) rfl rfl (B rfl) rfl el_23 (B rfl) (dsw_row hq) (E rfl rfl) (SrcT.sl so_23 (B rfl) (E rfl rfl) rfl) (by rw [hpm]; unfold maxLen; omega) (by rw [hpm]; omega) (fun A72 c72 => ?_)
         refine nl ?_
         refine op 15 ?_
         refine Y1 (ix (j := q) (hj := fun hg => ⟨rfl, by show q < (ds.files.set q _).length; rw [List.length_set]; exact hq⟩)) (nl ?_)
         refine op 16 ?_
         refine y1 (nl ?_)
         refine op 17 ?_
         refine AWL.storeEp1 (i := 1) rfl rfl rfl ag_23 rfl (E rfl rfl) (E rfl rfl) rfl rfl (by rw [len_files]; show _ < (ds.files.set q _).length * 2; rw [List.length_set]; omega) (nl ?_)
         refine dn ?_
         refine ⟨m + 1, A72, c72, ⟨by omega, by omega⟩, by omega, sbZ, ?_⟩
         rw [← padTo_succ hm1, ← dsw_grow hq]
         rfl
        ·
         refine Y1 (lw (hr := fun hg => fby_set hq)) (nl ?_)
         refine wp2 3 14 ?_ ?_
         ·
          refine y1 (nl ?_)
          refine op 14 ?_
          refine AWL.appendRow (i := q + 4) rfl rfl (B rfl) rfl el_23 (B rfl) (dsw_row hq) (E rfl rfl) (SrcT.sl so_23 (B rfl) (E rfl rfl) rfl) (by rw [hpm]; unfold maxLen; omega) (by rw [hpm]; omega) (fun A72 c72 => ?_)
          refine nl ?_
          refine op 15 ?_
          refine Y1 (ix (j := q) (hj := fun hg => ⟨rfl, by show q < (ds.files.set q _).length; rw [List.length_set]; exact hq⟩)) (nl ?_)
          refine op 16 ?_
          refine y1 (nl ?_)
          refine op 17 ?_
          refine AWL.storeEp1 (i := 1) rfl rfl rfl ag_23 rfl (E rfl rfl) (E rfl rfl) rfl rfl (by rw [len_files]; show _ < (ds.files.set q _).length * 2; rw [List.length_set]; omega) (nl ?_)
          refine dn ?_
          refine ⟨m + 1, A72, c72, ⟨by omega, by omega⟩, by omega, sbZ, ?_⟩
          rw [← padTo_succ hm1, ← dsw_grow hq]
          rfl
         ·
          refine AWL.appendRow (i := q + 4) rfl rfl (B rfl) rfl el_23 (B rfl) (dsw_row hq) (E rfl rfl) (SrcT.sl so_23 (B rfl) (E rfl rfl) rfl) (by rw [hpm]; unfold maxLen; omega) (by rw [hpm]; omega) (fun A72 c72 => ?_)
          refine nl ?_
          refine op 3 ?_
          refine y1 (nl ?_)
          refine op 15 ?_
          refine Y1 (ix (j := q) (hj := fun hg => ⟨rfl, by show q < (ds.files.set q _).length; rw [List.length_set]; exact hq⟩)) (nl ?_)
          refine op 16 ?_
          refine y1 (nl ?_)
          refine op 17 ?_
          refine AWL.storeEp1 (i := 1) rfl rfl rfl ag_23 rfl (E rfl rfl) (E rfl rfl) rfl rfl (by rw [len_files]; show _ < (ds.files.set q _).length * 2; rw [List.length_set]; omega) (nl ?_)
          refine dn ?_
          refine ⟨m + 1, A72, c72, ⟨by omega, by omega⟩, by omega, sbZ, ?_⟩
          rw [← padTo_succ hm1, ← dsw_grow hq]
          rfl
      ·
       refine AWL.buildSlice1 rfl rfl (B rfl) rfl el_23 rfl (evsC (E rfl rfl) evs0) nB rfl rfl (nl ?_)
       refine wp2 3 8 ?_ ?_
       ·
        refine y1 (nl ?_)
        refine op 8 ?_
        refine y1 (nl ?_)
        refine op 10 ?_
        refine Y1 (ix (j := q) (hj := fun hg => ⟨rfl, by show q < (ds.files.set q _).length; rw [List.length_set]; exact hq⟩)) (nl ?_)
        refine op 11 ?_
        refine y1 (nl ?_)
        refine op 12 ?_
        refine Y1 (lw (hr := fun hg => fby_set hq)) (nl ?_)
        refine op 14 ?_
        refine AWL.appendRow (i := q + 4) rfl rfl (B rfl) rfl el_23 (B rfl) (dsw_row hq) (E rfl rfl) (SrcT.sl so_23 (B rfl) (E rfl rfl) rfl) (by rw [hpm]; unfold maxLen; omega) (by rw [hpm]; omega) (fun A72 c72 => ?_)
        refine nl ?_
        refine op 15 ?_
        refine Y1 (ix (j := q) (hj := fun hg => ⟨rfl, by show q < (ds.files.set q _).length; rw [List.length_set]; exact hq⟩)) (nl ?_)
        refine op 16 ?_
        refine y1 (nl ?_)
        refine op 17 ?_
        refine AWL.storeEp1 (i := 1) rfl rfl rfl ag_23 rfl (E rfl rfl) (E rfl rfl) rfl rfl (by rw [len_files]; show _ < (ds.files.set q _).length * 2; rw [List.length_set]; omega) (nl ?_)
        refine dn ?_
        refine ⟨m + 1, A72, c72, ⟨by omega, by omega⟩, by omega, sbZ, ?_⟩
        rw [← padTo_succ hm1, ← dsw_grow hq]
        rfl
       ·
        refine y1 (nl ?_)
        refine T1 (i := 10) rfl (freeIdxRow (i := 1) rfl ss_112 rfl (E rfl rfl) (E rfl rfl) ⟨rfl, by show q < (ds.files.set q _).length; rw [List.length_set]; exact hq⟩) ?_
        refine tp 11 ?_
        refine wp2 3 12 ?_ ?_
        ·
         refine y1 (nl ?_)
         refine op 12 ?_
         refine Y1 (lw (hr := fun hg => fby_set hq)) (nl ?_)
         refine op 14 ?_
         refine AWL.appendRow (i := q + 4) rfl rfl (B rfl) rfl el_23 (B rfl) (dsw_row hq) (E rfl rfl) (SrcT.sl so_23 (B rfl) (E rfl rfl) rfl) (by rw [hpm]; unfold maxLen; omega) (by rw [hpm]; omega) (fun A72 c72 => ?_)
         refine nl ?_
         refine op 15 ?_
         refine Y1 (ix (j := q) (hj := fun hg => ⟨rfl, by show q < (ds.files.set q _).length; rw [List.length_set]; exact hq⟩)) (nl ?_)
         refine op 16 ?_
         refine y1 (nl ?_)
         refine op 17 ?_
         refine AWL.storeEp1 (i := 1) rfl rfl rfl ag_23 rfl (E rfl rfl) (E rfl rfl) rfl rfl (by rw [len_files]; show _ < (ds.files.set q _).length * 2; rw [List.length_set]; omega) (nl ?_)
         refine dn ?_
         refine ⟨m + 1, A72, c72, ⟨by omega, by omega⟩, by omega, sbZ, ?_⟩
         rw [← padTo_succ hm1, ← dsw_grow hq]
         rfl
        ·
         refine Y1 (lw (hr := fun hg => fby_set hq)) (nl ?_)
         refine wp2 3 14 ?_ ?_
         ·
          refine y1 (nl ?_)
          refine op 14 ?_
          refine AWL.appendRow (i := q + 4) rfl rfl (B rfl) rfl el_23 (B rfl) (dsw_row hq) (E rfl rfl) (SrcT.sl so_23 (B rfl) (E rfl rfl) rfl) (by rw [hpm]; unfold maxLen; omega) (by rw [hpm]; omega) (fun A72 c72 => ?_)
          refine nl ?_
          refine op 15 ?_
          refine Y1 (ix (j := q) (hj := fun hg => ⟨rfl, by show q < (ds.files.set q _).length; rw [List.length_set]; exact hq⟩)) (nl ?_)
          refine op 16 ?_
          refine y1 (nl ?_)
          refine op 17 ?_
          refine AWL.storeEp1 (i := 1) rfl rfl rfl ag_23 rfl (E rfl rfl) (E rfl rfl) rfl rfl (by rw [len_files]; show _ < (ds.files.set q _).length * 2; rw [List.length_set]; omega) (nl ?_)
          refine dn ?_
          refine ⟨m + 1, A72, c72, ⟨by omega, by omega⟩, by omega, sbZ, ?_⟩
          rw [← padTo_succ hm1, ← dsw_grow hq]
          rfl
         ·
          refine AWL.appendRow (i := q + 4) rfl rfl (B rfl) rfl el_23 (B rfl) (dsw_row hq) (E rfl rfl) (SrcT.sl so_23 (B rfl) (E rfl rfl) rfl) (by rw [hpm]; unfold maxLen; omega) (by rw [hpm]; omega) (fun A72 c72 => ?_)
          refine nl ?_
          refine op 3 ?_
          refine y1 (nl ?_)
          refine op 15 ?_
          refine Y1 (ix (j := q) (hj := fun hg => ⟨rfl, by show q < (ds.files.set q _).length; rw [List.length_set]; exact hq⟩)) (nl ?_)
          refine op 16 ?_
          refine y1 (nl ?_)
          refine op 17 ?_
          refine AWL.storeEp1 (i := 1) rfl rfl rfl ag_23 rfl (E rfl rfl) (E rfl rfl) rfl rfl (by rw [len_files]; show _ < (ds.files.set q _).length * 2; rw [List.length_set]; omega) (nl ?_)
          refine dn ?_
          refine ⟨m + 1, A72, c72, ⟨by omega, by omega⟩, by omega, sbZ, ?_⟩
          rw [← padTo_succ hm1, ← dsw_grow hq]
          rfl
     ·have hlt : (ds.opn.getD j default).place + k < m := by
       have h : ¬ ((padTo (wr (ds.files.getD q default).bytes (ds.opn.getD j default).place (s.take k)) m).length : Int) ≤ (((ds.opn.getD j default).place + k : Nat) : Int) := h4f
       omega
      refine xt ?_
      rw [padTo_out hm1 hm2 hlt]
      have hpl1 : (ds.opn.getD j default).place + k < (padTo (wr (ds.files.getD q default).bytes (ds.opn.getD j default).place (s.take k)) ((ds.opn.getD j default).place + k + 1)).length := by rw [padTo_len]; omega
      refine AW.rseqP rfl ?_
      refine phn 20 1 ?_
      refine q5 ?_
      refine Q1 (ix (j := q) (hj := fun hg => ⟨rfl, by show q < (ds.files.set q _).length; rw [List.length_set]; exact hq⟩)) ?_
      refine q1 ?_
      refine Q1 (lw (hr := fun hg => fby_set hq)) ?_
      refine q5 ?_
      refine Q1 (ix (j := j) (hj := fun hg => ⟨rfl, by show j < (ds.opn.set j _).length; rw [List.length_set]; exact hjl⟩)) ?_
      refine q1 ?_
      refine Q1 (lw (hr := fun hg => dpl_set hjl)) ?_
      refine q2 ?_
      refine Q1 (Yv.indexL rfl st_9 eV eV (fun hg => ⟨rfl, by omega⟩)) ?_
      refine Q1 (Yv.indexRow (i := q + 4) (j := (ds.opn.getD j default).place + k) rfl ss_23 (dsw_row (b := b) hq) eV eV (fun hg => ⟨rfl, hpl1⟩)) ?_
      refine nq ?_
      refine op 20 ?_
      refine AWL.storeEp1 (i := q + 4) rfl rfl rfl ag_5 (dsw_row (b := b) hq) (E rfl rfl) (E rfl rfl) rfl rfl (by rw [List.length_map, Nat.mul_one]; exact hpl1) (nl ?_)
      refine dn ?_
      refine AW.eqS (S' := (DSt b (dsW ds j q (wr (ds.files.getD q default).bytes (ds.opn.getD j default).place (s.take (k + 1))) A1 c1 ((ds.opn.getD j default).place + k)))) ?_ ?_
      ·have htl := take_cl (s := s) (k := k) (by omega)
       have e := wr_step (ds.files.getD q default).bytes (ds.opn.getD j default).place (s.take k) (s.getD k 0)
       rw [htl] at e
       rw [take_c (by omega), ← e, ← dsw_byte _ hq hpl1]
      have hap : (atP (ds.opn.getD j default) ((ds.opn.getD j default).place + k)).place = (ds.opn.getD j default).place + k := rfl
      refine rg (y5 ?_)
      refine Y1 (ix (j := j) (hj := fun hg => ⟨rfl, by show j < (ds.opn.set j _).length; rw [List.length_set]; exact hjl⟩)) ?_
      refine y1 ?_
      refine Y1 (lw (hr := fun hg => dpl_set hjl)) ?_
      refine y1 ?_
      refine Y1 (ix (j := j) (hj := fun hg => ⟨rfl, by show j < (ds.opn.set j _).length; rw [List.length_set]; exact hjl⟩)) ?_
      refine y1 ?_
      refine AWL.storeEp1 (i := 2) rfl rfl rfl ag_3 rfl (E rfl rfl) (E rfl rfl) rfl rfl (by rw [len_desc]; show _ < (ds.opn.set j _).length * 3; rw [List.length_set]; omega) (nl ?_)
      refine AW.eqS (S' := (DSt b (dsW ds j q (wr (ds.files.getD q default).bytes (ds.opn.getD j default).place (s.take (k + 1))) A1 c1 ((ds.opn.getD j default).place + k + 1)))) ?_ ?_
      ·rw [← dsw_place hjl]
       rfl
      refine rg (y3 (nl ?_))
      refine ⟨k + 1, A1, c1, by omega, by omega, sbZ, rfl⟩
   ·refine xt ?_
    obtain rfl : k = s.length := by omega
    rw [List.take_length]
    have hpbw : PB (n + s.length) (pl (dsW ds j q (wr (ds.files.getD q default).bytes (ds.opn.getD j default).place s) A c ((ds.opn.getD j default).place + s.length))) := pb_wrote hw1 (by omega) (by have := wr_le (l := (ds.files.getD q default).bytes) (p := (ds.opn.getD j default).place) (s := s); omega) (by omega)
    refine rg (y6 ?_)
    refine Y1 (ix (j := j) (hj := fun hg => ⟨rfl, by show j < (ds.opn.set j _).length; rw [List.length_set]; exact hjl⟩)) ?_
    refine y1 ?_
    refine Y1 (lw (hr := fun hg => dnm_set hjl)) ?_
    refine y1 ?_
    refine ka (say57 b (dsW ds j q (wr (ds.files.getD q default).bytes (ds.opn.getD j default).place s) A c ((ds.opn.getD j default).place + s.length)) (n + s.length) hpbw (by omega) 3 (ds.opn.getD j default).name s (by omega)) ?_
    rintro t116 S116 ⟨rfl, A116, c116, rfl⟩
    refine nl (rs (y3 (nl ?_)))
    refine rt ?_
    exact ⟨by unfold writeV; rw [if_pos (.inr (.inr hk5))]; rfl, { dsW ds j q (wr (ds.files.getD q default).bytes (ds.opn.getD j default).place s) A c ((ds.opn.getD j default).place + s.length) with trace := sayF 3 (ds.opn.getD j default).name s ds.trace, tA := A116, tc := c116 }, write_file hjl hk5 hq hqn hqg hqp, rfl⟩
 refine rs (y1 (nl ?_))
 refine rt ?_
 refine ⟨by unfold writeV; rw [if_neg (fun q => q.elim h0f (fun q => q.elim h1f h2f))]; rfl, ds, ?_, rfl⟩
 unfold writeP
 rw [if_neg h0f, if_neg h1f, if_neg h2f]

end Go.Proofs.YtlfklgganokgdaaGreat.V
