/-
  TEXTS JOINED: VDf, VDn, VWk19, VDg, VWk20, VRg, Wz, Wk25, Wk26, Wk27, Wk28.
-/
import Derived.Test.YtlfklgganokgdaaGreatQh
set_option linter.unusedSimpArgs false
set_option linter.unusedVariables false
set_option linter.unusedSectionVars false
set_option linter.unnecessarySimpa false
set_option maxHeartbeats 64000000
namespace Go.Proofs.YtlfklgganokgdaaGreat.V
open Go Go.RowKit
def wfP (name : Nm) (s : List UInt8) (p : PW) : PW := if openV name 577 p < 0 then p else closeP (openV name 577 p) (writeP (openV name 577 p) s (openP name 577 p))
def DWr (name : Nm) (s : List UInt8) (p p' : PW) : Prop := ∃ p1, DOpen name 577 p p1 ∧ p' = if openV name 577 p < 0 then p1 else closeP (openV name 577 p) (writeP (openV name 577 p) s p1)
theorem PB.mono {n m : Nat} {p : PW} (h : PB n p) (hm : n ≤ m) : PB m p := ⟨h.opn, Nat.le_trans h.tr hm, fun e he => Nat.le_trans (h.txt e he) hm, fun f hf => Nat.le_trans (h.fl f hf) hm, fun d hd => Nat.le_trans (h.pl d hd) hm, Nat.le_trans h.sin hm, Nat.le_trans h.nf hm⟩
theorem PB.close {n : Nat} {p : PW} (h : PB n p) (fd : Int) : PB n (closeP fd p) := by
 unfold closeP
 split
 ·exact h
 exact h.opn_set (Nat.zero_le n)
theorem PB.open0 {n : Nat} {p : PW} (h : PB n p) (name : Nm) (flags : Int) (hf : ¬ flags = 577) : PB n (openP name flags p) := by
 unfold openP
 split
 ·exact h
 exact h.opn_set (Nat.zero_le n)
theorem putP_fl {name : Nm} {b : List UInt8} {n : Nat} {l : Fl} (h : ∀ f ∈ l, f.2.length ≤ n) (hb : b.length ≤ n) : ∀ f ∈ putP name b l, f.2.length ≤ n := by
 intro f hf
 induction l with
 | nil => rw [putP] at hf; rw [List.mem_singleton.1 hf]; exact hb
 | cons x r ih =>
  rw [putP] at hf
  split at hf
  ·rcases List.mem_cons.1 hf with rfl | hf
   ·exact hb
   ·exact h f (List.mem_cons_of_mem _ hf)
  ·rcases List.mem_cons.1 hf with rfl | hf
   ·exact h _ (List.mem_cons_self ..)
   ·exact ih (fun g hg => h g (List.mem_cons_of_mem _ hg)) hf
theorem putP_ln {name : Nm} {b : List UInt8} : ∀ {l : Fl}, (putP name b l).length ≤ l.length + 1
 | [] => by simp [putP]
 | x :: r => by
  rw [putP]
  split
  ·simp
  ·have := putP_ln (name := name) (b := b) (l := r)
   simp only [List.length_cons]
   omega
theorem PB.opened {n : Nat} {p : PW} (h : PB n p) (name : Nm) : PB (n + 1) (openP name 577 p) := by
 unfold openP
 split
 ·exact h.mono (by omega)
 rw [if_pos rfl]
 refine ⟨?_, ?_, fun e he => ?_, putP_fl (fun f hf => Nat.le_trans (h.fl f hf) (by omega)) (Nat.zero_le _), fun d hd => ?_, Nat.le_trans h.sin (by omega), ?_⟩
 ·show (p.opn.set _ _).length = 19
  rw [List.length_set]
  exact h.opn
 ·show (p.trace ++ [_]).length ≤ n + 1
  rw [List.length_append]
  have := h.tr
  simp only [List.length_cons, List.length_nil]
  omega
 ·rcases List.mem_append.1 he with he | he
  ·have := h.txt e he; omega
  rw [List.mem_singleton.1 he]; exact Nat.zero_le _
 ·rcases List.mem_or_eq_of_mem_set hd with hd | rfl
  ·have := h.pl d hd; omega
  exact Nat.zero_le _
 have := putP_ln (name := name) (b := []) (l := p.files)
 have := h.nf
 show (putP name [] p.files).length ≤ n + 1
 omega
theorem PB.read {n : Nat} {p : PW} (h : PB n p) (fd N : Int) : PB n (readP fd N p) := by
 unfold readP
 split
 ·exact ⟨h.opn, h.tr, h.txt, h.fl, h.pl, by simp only [List.length_drop]; have := h.sin; omega, h.nf⟩
 split
 ·rename_i hk
  by_cases hin : fd < 0 ∨ 19 ≤ fd
  ·unfold kindP at hk
   rw [if_pos hin] at hk
   exact absurd hk (by decide)
  have hjl : fd.toNat < p.opn.length := by have := h.opn; omega
  have hpj := h.pl (p.opn.getD fd.toNat default) (getD_mem' hjl)
  -- what is read lies in the file
  have hle : (((getP (p.opn.getD fd.toNat default).name p.files).getD []).drop (p.opn.getD fd.toNat default).place).length ≤ n - (p.opn.getD fd.toNat default).place := by
   rw [List.length_drop]
   cases e : getP (p.opn.getD fd.toNat default).name p.files with
   | none => simp
   | some b =>
    have := h.fl _ (getP_mem e)
    simp only [Option.getD_some]
    simp only at this
    omega
  refine h.opn_set ?_
  show (p.opn.getD fd.toNat default).place + _ ≤ n
  rw [List.length_take]
  omega
 exact h
theorem sayF_pb {n : Nat} {k : Int} {name text : List UInt8} {l : List Evt} (h1 : l.length ≤ n) (h2 : ∀ e ∈ l, e.text.length ≤ n) : (sayF k name text l).length ≤ n + 1 + text.length ∧ ∀ e ∈ sayF k name text l, e.text.length ≤ n + 1 + text.length := by
 unfold sayF
 split
 ·exact ⟨by omega, fun e he => by have := h2 e he; omega⟩
 split
 ·rename_i hc
  refine ⟨by rw [List.length_set]; omega, fun e he => ?_⟩
  rcases List.mem_or_eq_of_mem_set he with he | rfl
  ·have := h2 e he; omega
  have := h2 _ (last_mem hc.1)
  simp only [List.length_append]; omega
 refine ⟨by simp; omega, fun e he => ?_⟩
 rcases List.mem_append.1 he with he | he
 ·have := h2 e he; omega
 rcases List.mem_singleton.1 he with rfl
 simp only; omega
theorem PB.write {n : Nat} {p : PW} (h : PB n p) (fd : Int) (s : List UInt8) : PB (n + 1 + s.length) (writeP fd s p) := by
 unfold writeP
 split
 ·have := sayF_pb (k := 1) (name := []) (text := s) h.tr h.txt
  exact ⟨h.opn, this.1, this.2, fun f hf => by have := h.fl f hf; omega, fun d hd => by have := h.pl d hd; omega, by have := h.sin; show p.stdin.length ≤ _; omega, by have := h.nf; show p.files.length ≤ _; omega⟩
 split
 ·have := sayF_pb (k := 2) (name := []) (text := s) h.tr h.txt
  exact ⟨h.opn, this.1, this.2, fun f hf => by have := h.fl f hf; omega, fun d hd => by have := h.pl d hd; omega, by have := h.sin; show p.stdin.length ≤ _; omega, by have := h.nf; show p.files.length ≤ _; omega⟩
 split
 ·rename_i hk
  split
  ·exact h.mono (by omega)
  by_cases hin : fd < 0 ∨ 19 ≤ fd
  ·unfold kindP at hk
   rw [if_pos hin] at hk
   exact absurd hk (by decide)
  have hjl : fd.toNat < p.opn.length := by have := h.opn; omega
  have hpj := h.pl (p.opn.getD fd.toNat default) (getD_mem' hjl)
  have ht := sayF_pb (k := 3) (name := (p.opn.getD fd.toNat default).name) (text := s) h.tr h.txt
  have hwl := writeAt_len ((getP (p.opn.getD fd.toNat default).name p.files).getD []) (p.opn.getD fd.toNat default).place s
  have hg : ((getP (p.opn.getD fd.toNat default).name p.files).getD []).length ≤ n := by
   cases e : getP (p.opn.getD fd.toNat default).name p.files with
   | none => exact Nat.zero_le _
   | some b => exact h.fl _ (getP_mem e)
  refine ⟨by show (p.opn.set _ _).length = 19; rw [List.length_set]; exact h.opn, ht.1, ht.2, putP_fl (fun f hf => by have := h.fl f hf; omega) (by rw [hwl]; omega), fun d hd => ?_, by have := h.sin; show p.stdin.length ≤ _; omega, ?_⟩
  ·rcases List.mem_or_eq_of_mem_set hd with hd | rfl
   ·have := h.pl d hd; omega
   show _ + s.length ≤ _; omega
  have := putP_ln (name := (p.opn.getD fd.toNat default).name) (b := writeAt ((getP (p.opn.getD fd.toNat default).name p.files).getD []) (p.opn.getD fd.toNat default).place s) (l := p.files)
  have := h.nf
  show (putP _ _ p.files).length ≤ _
  omega
 exact h.mono (by omega)
theorem Side.wf {r d d' : PW} {name : Nm} {s : List UInt8} (h : Side r d) (hn : Named r) (hw : DWr name s d d') : Side (wfP name s r) d' := by
 obtain ⟨d1, h1, rfl⟩ := hw
 have hs := h.openD h1
 unfold wfP
 rw [h.openV]
 by_cases hv : Go.Proofs.YtlfklgganokgdaaGreat.V.openV name 577 r < 0
 ·rw [if_pos hv, if_pos hv]
  unfold openP at hs
  rw [if_pos hv] at hs
  exact hs
 rw [if_neg hv, if_neg hv]
 exact (hs.write (named_open hn name 577) _ s).close _
theorem named_wf {p : PW} (h : Named p) (name : Nm) (s : List UInt8) : Named (wfP name s p) := by
 unfold wfP
 split
 ·exact h
 exact named_close (named_write (named_open h name 577) _ s) _
theorem PB.wf {n : Nat} {p : PW} (h : PB n p) (name : Nm) (s : List UInt8) : PB (n + 2 + s.length) (wfP name s p) := by
 unfold wfP
 split
 ·exact h.mono (by omega)
 exact (((h.opened name).write _ s).close _).mono (by omega)
theorem fcn_at {l : List (List UInt8 × List UInt8)} {j : Nat} (h : j < l.length) : (l.flatMap fCells)[j * 2 + 0]? = some (sv (l.getD j default).1) := flat_at fk h 0 (by decide)
theorem fct_at {l : List (List UInt8 × List UInt8)} {j : Nat} (h : j < l.length) : (l.flatMap fCells)[j * 2 + 1]? = some (sv (l.getD j default).2) := flat_at fk h 1 (by decide)
theorem fits_eq (s : List UInt8) : fitsB s = ((decide (1 ≤ (s.length : Int)) && decide ((s.length : Int) ≤ 255)) && !badN s) := by
 unfold fitsB
 have h1 : (!decide (s = [])) = decide (1 ≤ (s.length : Int)) := by
  cases s with
  | nil => rfl
  | cons a r =>
   have : (1 : Int) ≤ ((a :: r).length : Int) := by simp only [List.length_cons]; omega
   rw [decide_eq_true this]
   simp
 have h2 : decide (Lib.indexByte s 0 < 0) = !badN s := by
  have h := idx_bad s
  cases hb : badN s
  ·rw [hb] at h
   have : Lib.indexByte s 0 < 0 := by
    rcases Int.lt_or_le (Lib.indexByte s 0) 0 with q | q
    ·exact q
    ·exact absurd (h.1 q) (by decide)
   rw [decide_eq_true this]; rfl
  ·rw [hb] at h
   have : ¬ Lib.indexByte s 0 < 0 := by have := h.2 rfl; omega
   rw [decide_eq_false this]; rfl
 rw [h1, h2]
structure NI (p fs : Fl) : Prop where
 srt : Srt fs
 perm : p.Perm fs
theorem NI.nil : NI (nF []) [] := ⟨List.Pairwise.nil, List.Perm.refl _⟩
theorem any_none {name : Nm} {l : Fl} : (l.any fun y => decide (y.1 = name)) = (getP name l).isSome := by
 induction l with
 | nil => rfl
 | cons x r ih =>
  rw [List.any_cons, getP, ih]
  by_cases h : x.1 = name <;> simp [h]
theorem perm_isSome {name : Nm} {l l' : Fl} (h : l.Perm l') : (getP name l).isSome = (getP name l').isSome := by
 rw [← any_none, ← any_none]
 apply Bool.eq_iff_iff.2
 rw [List.any_eq_true, List.any_eq_true]
 exact ⟨fun ⟨x, hx, q⟩ => ⟨x, h.subset hx, q⟩, fun ⟨x, hx, q⟩ => ⟨x, h.symm.subset hx, q⟩⟩
theorem NI.add {l : Fl} {j : Nat} {fs fs' : Fl} (h : NI (nF (l.take j)) fs) (hj : j < l.length) (hf : fitsB (l.getD j default).1 = true) (hg : getP (l.getD j default).1 fs = none) (hl : Laid (l.getD j default) fs fs') : NI (nF (l.take (j + 1))) fs' := by
 have h1 := laid_srt h.srt hg hl
 refine ⟨h1.1, ?_⟩
 have hn : ((nF (l.take j)).any fun y => decide (y.1 = (l.getD j default).1)) = false := by
  rw [any_none, perm_isSome h.perm, hg]
  rfl
 rw [nF_succ hj, stepN, hn, hf]
 refine List.Perm.trans ?_ h1.2
 rw [putP_new hg]
 exact h.perm.append_right _
theorem NI.skip {l : Fl} {j : Nat} {fs : Fl} (h : NI (nF (l.take j)) fs) (hj : j < l.length) (hf : fitsB (l.getD j default).1 = false ∨ ¬ getP (l.getD j default).1 fs = none) : NI (nF (l.take (j + 1))) fs := by
 refine ⟨h.srt, ?_⟩
 rw [nF_succ hj, stepN, if_neg ?_]
 ·exact h.perm
 rw [Bool.and_eq_true, Bool.not_eq_true', any_none, perm_isSome h.perm]
 rintro ⟨a, b⟩
 rcases hf with q | q
 ·rw [b] at q; cases q
 cases e : getP (l.getD j default).1 fs with
 | none => exact q e
 | some x => rw [e] at a; cases a
def ds0 (fs : List FileR) (lA : Option Addr) (lc : Nat) (stdin : List UInt8) : DS := ⟨fs, lA, lc, stdin, [], none, 0, [], none, 0⟩
theorem new_perm (b : Nat) (fs : List FileR) (lA : Option Addr) (lc : Nat) (stdin : List UInt8) {A : Option Addr} : (DSt b { ds0 fs lA lc stdin with opn := opnZ, dA := A, dc := 19 }).Perm
    (.box b 115 [.v (.slice lA fs.length lc), sv stdin, .v (.slice A 19 19), .v (.slice none 0 0)] :: .row lA fs.length lc 163 2 (fs.flatMap fileCells) :: .row none 0 0 149 3 [] :: (fs.map fileRow ++ [.row A 19 19 137 3 (opnZ.flatMap descCells)])) := by
 refine List.Perm.cons _ (List.Perm.cons _ ?_)
 refine List.Perm.trans (List.Perm.swap _ _ _) (List.Perm.cons _ ?_)
 exact (List.perm_append_singleton _ _).symm
theorem ni_len {p fs : Fl} (h : NI p fs) : fs.length = p.length := h.perm.length_eq.symm
theorem nF_len (l : Fl) (j : Nat) (hj : j ≤ l.length) : (nF (l.take j)).length ≤ j := by
 induction j with
 | zero => simp [nF]
 | succ j ih =>
  have h1 := ih (by omega)
  rw [nF_succ (by omega), stepN]
  split
  ·rw [List.length_append]
   simp only [List.length_cons, List.length_nil]
   omega
  ·omega

theorem DNew21 (stdin : List UInt8) (files : List (List UInt8 × List UInt8)) (hl : files.length ≤ 549755813888) (hn : ∀ x ∈ files, x.1.length ≤ 1099511627776) (hd : ∀ x ∈ files, x.2.length ≤ 1099511627776) :
    ACalls Tryz.prog 36 [worldT stdin files] [] (fun t S => ∃ b ds, t = wp b ∧ S = DSt b ds ∧ ds.stdin = stdin ∧ ds.opn = opn0 ∧ ds.trace = [] ∧ NI (nF files) (ds.files.map nb)) := by
 refine ai Tryz.func36 Tryz.ntmps36 fun X w0 => ?_
 refine rs ?_
 refine bx fun b1 => ?_
 refine y1 ?_
 refine nl (rs (y3 ?_))
 refine bx fun b10 => ?_
 refine y1 (nl ?_)
 refine AW.rowNil 163 2 ?_
 refine AW.rowNil 137 3 ?_
 refine AW.rowNil 149 3 ?_
 refine AW.eqS (S' := .box b1 28 [sv stdin, .sl 2 (files.flatMap fCells)] :: DSt b10 (ds0 [] none 0 stdin)) rfl ?_
 refine sq (rs (y1 ?_))
 refine nl (bk ?_)
 refine lp4 (fun (j : Nat) (fs : List FileR) (lA : Option Addr) (lc : Nat) => [(1, true, pv b1), (3, true, wp b10), (4, true, zv j)]) (fun (j : Nat) (fs : List FileR) (lA : Option Addr) (lc : Nat) => (.box b1 28 [sv stdin, .sl 2 (files.flatMap fCells)] :: DSt b10 (ds0 fs lA lc stdin))) (fun (j : Nat) (fs : List FileR) (lA : Option Addr) (lc : Nat) => j ≤ files.length ∧ NI (nF (files.take j)) (fs.map nb)) (fun (j : Nat) (fs : List FileR) (lA : Option Addr) (lc : Nat) => files.length - j) 0 ([]) none 0 ?_ ?_
 ·exact ⟨Nat.zero_le _, NI.nil⟩
 ·
  intro j fs lA lc hinv
  obtain ⟨hj, hni⟩ := hinv
  have hfl : fs.length ≤ files.length := by
   have h1 := ni_len hni
   rw [List.length_map] at h1
   have h2 := nF_len files j hj
   omega
  refine sq (rs (y5 (nl ?_)))
  refine cq (fun _ => ?_) fun _ => ?_
  ·
   have hjl : j < files.length := by omega
   have hnj : (files.getD j default).1.length ≤ 1099511627776 := hn _ (getD_mem' hjl)
   have hdj : (files.getD j default).2.length ≤ 1099511627776 := hd _ (getD_mem' hjl)
   refine sp (sq (bk (rs (y6 ?_))))
   refine kp (fits33 (files.getD j default).1 hnj) ?_
   refine y1 ?_
   refine nl (rs (y7 ?_))
   refine cE ce_59 [.box b1 28 [sv stdin, .sl 2 (files.flatMap fCells)]] _ rfl rfl rfl (find34F b10 (ds0 fs lA lc stdin) files.length hfl (by omega) (files.getD j default).1) ?_
   rintro t32 S32 ⟨rfl, rfl⟩
   refine y1 ?_
   refine nl (rs (y5 (nl ?_)))
   refine cq (fun h1t => ?_) fun h1f => ?_
   ·
    rw [Bool.and_eq_true, ← fits_eq] at h1t
    have hfits := h1t.1
    have hget : getP (files.getD j default).1 (fs.map nb) = none := by
     rcases findP_get (name := (files.getD j default).1) (l := fs.map nb) with ⟨_, h⟩ | ⟨q, h, _⟩
     ·exact h
     ·exfalso
      have h2 := odt h1t.2
      have h3 : findP (files.getD j default).1 (fs.map nb) < 0 := h2
      rw [h] at h3
      omega
    refine AW.regionP rfl ?_
    refine tp 0 ?_
    refine tp 1 ?_
    refine tp 3 ?_
    refine tp 7 ?_
    refine tp 9 ?_
    refine wp2 2 8 ?_ ?_
    ·
     refine y1 (nl ?_)
     refine T1 (i := 4) rfl (freeIdxSl rfl ss_26 (by decide) (E rfl rfl) (E rfl rfl) ⟨rfl, by rw [len_fc]; omega⟩) ?_
     refine tp 5 ?_
     refine wp2 6 8 ?_ ?_
     ·
      refine y1 (nl ?_)
      refine op 8 ?_
      refine y1 (nl ?_)
      refine op 10 ?_
      refine y1 (nl ?_)
      refine op 11 ?_
      refine y1 (nl ?_)
      refine op 12 ?_
      refine y1 (nl ?_)
      refine op 13 ?_
      refine AWL.strBytesRow rfl rfl (B rfl) rfl st_9 so_23 kd_5 (E rfl rfl) (by exact Nat.le_trans hdj (by unfold maxLen; decide)) (fun A51 c51 => ?_)
      refine nl ?_
      refine op 14 ?_
      refine cE ce_60 [.box b1 28 [sv stdin, .sl 2 (files.flatMap fCells)]] _ rfl rfl rfl (lay35F b10 (ds0 fs lA lc stdin) files.length hfl (by omega) ⟨(files.getD j default).1, (files.getD j default).2, A51, c51⟩ hdj) ?_
      rintro t52 S52 ⟨rfl, fs1, lA1, lc1, hl1, rfl⟩
      refine nl ?_
      refine dn ?_
      refine rg (y3 (nl ?_))
      refine ⟨j + 1, fs1, lA1, lc1, ⟨by omega, hni.add hjl hfits hget hl1⟩, by omega, sbZ, rfl⟩
     ·
      refine y1 (nl ?_)
      refine T1 (i := 10) rfl (freeIdxSl rfl ss_26 (by decide) (E rfl rfl) (E rfl rfl) ⟨rfl, by rw [len_fc]; omega⟩) ?_
      refine tp 11 ?_
      refine wp2 6 12 ?_ ?_
      ·
       refine y1 (nl ?_)
       refine op 12 ?_
       refine y1 (nl ?_)
       refine op 13 ?_
       refine AWL.strBytesRow rfl rfl (B rfl) rfl st_9 so_23 kd_5 (E rfl rfl) (by exact Nat.le_trans hdj (by unfold maxLen; decide)) (fun A51 c51 => ?_)
       refine nl ?_
       refine op 14 ?_
       refine cE ce_60 [.box b1 28 [sv stdin, .sl 2 (files.flatMap fCells)]] _ rfl rfl rfl (lay35F b10 (ds0 fs lA lc stdin) files.length hfl (by omega) ⟨(files.getD j default).1, (files.getD j default).2, A51, c51⟩ hdj) ?_
       rintro t52 S52 ⟨rfl, fs1, lA1, lc1, hl1, rfl⟩
       refine nl ?_
       refine dn ?_
       refine rg (y3 (nl ?_))
       refine ⟨j + 1, fs1, lA1, lc1, ⟨by omega, hni.add hjl hfits hget hl1⟩, by omega, sbZ, rfl⟩
      ·
       refine y1 (nl ?_)
       refine wp2 6 13 ?_ ?_
       ·
        refine y1 (nl ?_)
        refine op 13 ?_
        refine AWL.strBytesRow rfl rfl (B rfl) rfl st_9 so_23 kd_5 (E rfl rfl) (by exact Nat.le_trans hdj (by unfold maxLen; decide)) (fun A51 c51 => ?_)
        refine nl ?_
        refine op 14 ?_
        refine cE ce_60 [.box b1 28 [sv stdin, .sl 2 (files.flatMap fCells)]] _ rfl rfl rfl (lay35F b10 (ds0 fs lA lc stdin) files.length hfl (by omega) ⟨(files.getD j default).1, (files.getD j default).2, A51, c51⟩ hdj) ?_
        rintro t52 S52 ⟨rfl, fs1, lA1, lc1, hl1, rfl⟩
        refine nl ?_
        refine dn ?_
        refine rg (y3 (nl ?_))
        refine ⟨j + 1, fs1, lA1, lc1, ⟨by omega, hni.add hjl hfits hget hl1⟩, by omega, sbZ, rfl⟩
       ·
        refine AWL.strBytesRow rfl rfl (B rfl) rfl st_9 so_23 kd_5 (E rfl rfl) (by exact Nat.le_trans hdj (by unfold maxLen; decide)) (fun A51 c51 => ?_)
        refine nl ?_
        refine op 6 ?_
        refine y1 (nl ?_)
        refine op 14 ?_
        refine cE ce_60 [.box b1 28 [sv stdin, .sl 2 (files.flatMap fCells)]] _ rfl rfl rfl (lay35F b10 (ds0 fs lA lc stdin) files.length hfl (by omega) ⟨(files.getD j default).1, (files.getD j default).2, A51, c51⟩ hdj) ?_
        rintro t52 S52 ⟨rfl, fs1, lA1, lc1, hl1, rfl⟩
        refine nl ?_
        refine dn ?_
        refine rg (y3 (nl ?_))
        refine ⟨j + 1, fs1, lA1, lc1, ⟨by omega, hni.add hjl hfits hget hl1⟩, by omega, sbZ, rfl⟩
    ·
     refine y1 (nl ?_)
     refine T1 (i := 10) rfl (freeIdxSl rfl ss_26 (by decide) (E rfl rfl) (E rfl rfl) ⟨rfl, by rw [len_fc]; omega⟩) ?_
     refine tp 11 ?_
     refine wp2 2 12 ?_ ?_
     ·
      refine y1 (nl ?_)
      refine T1 (i := 4) rfl (freeIdxSl rfl ss_26 (by decide) (E rfl rfl) (E rfl rfl) ⟨rfl, by rw [len_fc]; omega⟩) ?_
      refine tp 5 ?_
      refine wp2 6 12 ?_ ?_
      ·
       refine y1 (nl ?_)
       refine op 12 ?_
       refine y1 (nl ?_)
       refine op 13 ?_
       refine AWL.strBytesRow rfl rfl (B rfl) rfl st_9 so_23 kd_5 (E rfl rfl) (by exact Nat.le_trans hdj (by unfold maxLen; decide)) (fun A51 c51 => ?_)
       refine nl ?_
       refine op 14 ?_
       refine cE ce_60 [.box b1 28 [sv stdin, .sl 2 (files.flatMap fCells)]] _ rfl rfl rfl (lay35F b10 (ds0 fs lA lc stdin) files.length hfl (by omega) ⟨(files.getD j default).1, (files.getD j default).2, A51, c51⟩ hdj) ?_
       rintro t52 S52 ⟨rfl, fs1, lA1, lc1, hl1, rfl⟩
       refine nl ?_
       refine dn ?_
       refine rg (y3 (nl ?_))
       refine ⟨j + 1, fs1, lA1, lc1, ⟨by omega, hni.add hjl hfits hget hl1⟩, by omega, sbZ, rfl⟩
      ·
       refine y1 (nl ?_)
       refine wp2 6 13 ?_ ?_
       ·
        refine y1 (nl ?_)
        refine op 13 ?_
        refine AWL.strBytesRow rfl rfl (B rfl) rfl st_9 so_23 kd_5 (E rfl rfl) (by exact Nat.le_trans hdj (by unfold maxLen; decide)) (fun A51 c51 => ?_)
        refine nl ?_
        refine op 14 ?_
        refine cE ce_60 [.box b1 28 [sv stdin, .sl 2 (files.flatMap fCells)]] _ rfl rfl rfl (lay35F b10 (ds0 fs lA lc stdin) files.length hfl (by omega) ⟨(files.getD j default).1, (files.getD j default).2, A51, c51⟩ hdj) ?_
        rintro t52 S52 ⟨rfl, fs1, lA1, lc1, hl1, rfl⟩
        refine nl ?_
        refine dn ?_
        refine rg (y3 (nl ?_))
        refine ⟨j + 1, fs1, lA1, lc1, ⟨by omega, hni.add hjl hfits hget hl1⟩, by omega, sbZ, rfl⟩
       ·
        refine AWL.strBytesRow rfl rfl (B rfl) rfl st_9 so_23 kd_5 (E rfl rfl) (by exact Nat.le_trans hdj (by unfold maxLen; decide)) (fun A51 c51 => ?_)
        refine nl ?_
        refine op 6 ?_
        refine y1 (nl ?_)
        refine op 14 ?_
        refine cE ce_60 [.box b1 28 [sv stdin, .sl 2 (files.flatMap fCells)]] _ rfl rfl rfl (lay35F b10 (ds0 fs lA lc stdin) files.length hfl (by omega) ⟨(files.getD j default).1, (files.getD j default).2, A51, c51⟩ hdj) ?_
        rintro t52 S52 ⟨rfl, fs1, lA1, lc1, hl1, rfl⟩
        refine nl ?_
        refine dn ?_
        refine rg (y3 (nl ?_))
        refine ⟨j + 1, fs1, lA1, lc1, ⟨by omega, hni.add hjl hfits hget hl1⟩, by omega, sbZ, rfl⟩
     ·
      refine y1 (nl ?_)
      refine wp2 2 13 ?_ ?_
      ·
       refine y1 (nl ?_)
       refine T1 (i := 4) rfl (freeIdxSl rfl ss_26 (by decide) (E rfl rfl) (E rfl rfl) ⟨rfl, by rw [len_fc]; omega⟩) ?_
       refine tp 5 ?_
       refine wp2 6 13 ?_ ?_
       ·
        refine y1 (nl ?_)
        refine op 13 ?_
        refine AWL.strBytesRow rfl rfl (B rfl) rfl st_9 so_23 kd_5 (E rfl rfl) (by exact Nat.le_trans hdj (by unfold maxLen; decide)) (fun A51 c51 => ?_)
        refine nl ?_
        refine op 14 ?_
        refine cE ce_60 [.box b1 28 [sv stdin, .sl 2 (files.flatMap fCells)]] _ rfl rfl rfl (lay35F b10 (ds0 fs lA lc stdin) files.length hfl (by omega) ⟨(files.getD j default).1, (files.getD j default).2, A51, c51⟩ hdj) ?_
        rintro t52 S52 ⟨rfl, fs1, lA1, lc1, hl1, rfl⟩
        refine nl ?_
        refine dn ?_
        refine rg (y3 (nl ?_))
        refine ⟨j + 1, fs1, lA1, lc1, ⟨by omega, hni.add hjl hfits hget hl1⟩, by omega, sbZ, rfl⟩
       ·
        refine AWL.strBytesRow rfl rfl (B rfl) rfl st_9 so_23 kd_5 (E rfl rfl) (by exact Nat.le_trans hdj (by unfold maxLen; decide)) (fun A51 c51 => ?_)
        refine nl ?_
        refine op 6 ?_
        refine y1 (nl ?_)
        refine op 14 ?_
        refine cE ce_60 [.box b1 28 [sv stdin, .sl 2 (files.flatMap fCells)]] _ rfl rfl rfl (lay35F b10 (ds0 fs lA lc stdin) files.length hfl (by omega) ⟨(files.getD j default).1, (files.getD j default).2, A51, c51⟩ hdj) ?_
        rintro t52 S52 ⟨rfl, fs1, lA1, lc1, hl1, rfl⟩
        refine nl ?_
        refine dn ?_
        refine rg (y3 (nl ?_))
        refine ⟨j + 1, fs1, lA1, lc1, ⟨by omega, hni.add hjl hfits hget hl1⟩, by omega, sbZ, rfl⟩
      ·
       refine AWL.strBytesRow rfl rfl (B rfl) rfl st_9 so_23 kd_5 (E rfl rfl) (by exact Nat.le_trans hdj (by unfold maxLen; decide)) (fun A51 c51 => ?_)
       refine nl ?_
       refine op 2 ?_
       refine y1 (nl ?_)
       refine op 4 ?_
       refine y1 (nl ?_)
       refine op 5 ?_
       refine y1 (nl ?_)
       refine op 6 ?_
       refine y1 (nl ?_)
       refine op 14 ?_
       refine cE ce_60 [.box b1 28 [sv stdin, .sl 2 (files.flatMap fCells)]] _ rfl rfl rfl (lay35F b10 (ds0 fs lA lc stdin) files.length hfl (by omega) ⟨(files.getD j default).1, (files.getD j default).2, A51, c51⟩ hdj) ?_
       rintro t52 S52 ⟨rfl, fs1, lA1, lc1, hl1, rfl⟩
       refine nl ?_
       refine dn ?_
       refine rg (y3 (nl ?_))
       refine ⟨j + 1, fs1, lA1, lc1, ⟨by omega, hni.add hjl hfits hget hl1⟩, by omega, sbZ, rfl⟩
   ·have hno : fitsB (files.getD j default).1 = false ∨ ¬ getP (files.getD j default).1 (fs.map nb) = none := by
     rw [Bool.and_eq_false_iff, ← fits_eq] at h1f
     rcases h1f with h | h
     ·exact .inl h
     ·right
      intro hx
      have h2 := odf h
      have h3 : ¬ findP (files.getD j default).1 (fs.map nb) < 0 := h2
      rcases findP_get (name := (files.getD j default).1) (l := fs.map nb) with ⟨h4, _⟩ | ⟨q, _, _, _, h4, _⟩
      ·rw [h4] at h3; exact h3 (by decide)
      ·rw [hx] at h4; cases h4
    refine sp (rg (y3 (nl ?_)))
    refine ⟨j + 1, fs, lA, lc, ⟨by omega, hni.skip hjl hno⟩, by omega, sbZ, rfl⟩
  ·refine xt (rs (y1 ?_))
   refine AWL.makeRow (n := 19) (c := 19) rfl rfl (B rfl) rfl el_113 (E rfl rfl) (E rfl rfl) (by decide) (by decide) (by unfold maxLen; decide) (fun A54 => ?_)
   refine y3 (nl ?_)
   refine AW.dropAt 0 ?_
   refine AW.dropAt 2 ?_
   refine AW.perm (S' := DSt b10 { (ds0 fs lA lc stdin) with opn := opnZ, dA := A54, dc := 19 }) (new_perm _ _ _ _ _) ?_
   refine rs (y4 ?_)
   refine Y1 (ix (j := 0) (hj := fun hg => ⟨rfl, by show (0 : Nat) < 19; decide⟩)) ?_
   refine y1 ?_
   refine AWL.storeEp1 (i := 2) rfl rfl rfl ag_3 rfl (E rfl rfl) (E rfl rfl) rfl rfl (by exact Nat.le_of_ble_eq_true rfl) ?_
   refine nl (rs (y4 ?_))
   refine Y1 (ix (j := 1) (hj := fun hg => ⟨rfl, by show (1 : Nat) < 19; decide⟩)) ?_
   refine y1 ?_
   refine AWL.storeEp1 (i := 2) rfl rfl rfl ag_3 rfl (E rfl rfl) (E rfl rfl) rfl rfl (by exact Nat.le_of_ble_eq_true rfl) ?_
   refine nl (rs (y4 ?_))
   refine Y1 (ix (j := 2) (hj := fun hg => ⟨rfl, by show (2 : Nat) < 19; decide⟩)) ?_
   refine y1 ?_
   refine AWL.storeEp1 (i := 2) rfl rfl rfl ag_3 rfl (E rfl rfl) (E rfl rfl) rfl rfl (by exact Nat.le_of_ble_eq_true rfl) (nl ?_)
   refine AW.eqS (S' := DSt b10 { (ds0 fs lA lc stdin) with opn := opn0, dA := A54, dc := 19 }) rfl ?_
   refine rs (y2 (nl ?_))
   refine rt ?_
   refine ⟨b10, { (ds0 fs lA lc stdin) with opn := opn0, dA := A54, dc := 19 }, rfl, rfl, rfl, rfl, rfl, ?_⟩
   have h := hni
   rw [List.take_of_length_le (by omega)] at h
   exact h

def rdG (all : List UInt8) (g : Nat) (n : Int) : List UInt8 := (all.drop g).take n.toNat
theorem rdG_len (all : List UInt8) (g : Nat) (n : Int) : (rdG all g n).length = min n.toNat (all.length - g) := by simp [rdG]
theorem take_mn {l : List UInt8} {N : Nat} : (l.drop 0).take (min N l.length - 0) = l.take N := by
 rw [Nat.sub_zero, List.drop_zero]
 rcases Nat.le_total N l.length with h | h
 ·rw [Nat.min_eq_left h]
 rw [Nat.min_eq_right h, List.take_length, List.take_of_length_le h]
theorem drop_tl {l : List UInt8} {N : Nat} : (l.drop (l.take N).length).take (l.length - (l.take N).length) = l.drop N := by
 rw [List.take_of_length_le (by rw [List.length_drop]; exact Nat.le_refl _), List.length_take]
 rcases Nat.le_total N l.length with h | h
 ·rw [Nat.min_eq_left h]
 rw [Nat.min_eq_right h, List.drop_length, List.drop_of_length_le h]

theorem at29B (b : Nat) (fd : Int) (hfd : fd < 0 ∨ 19 ≤ fd) :
    ACalls Tryz.prog 105 [wp b, .v (.int .i64 fd)] [] fun t S => ∃ b', t = .v (.pointer (some ⟨b', 0, none⟩)) ∧ S = [.box b' 70 (descCells zd)] := by
 refine ai Tryz.func105 Tryz.ntmps105 fun X w0 => ?_
 refine rs (y1 ?_)
 refine nl (sq (rs (y10 (nl ?_))))
 refine cq (fun _ => ?_) fun h0f => ?_
 ·
  refine rs (y1 ?_)
  refine bx fun b16 => ?_
  refine y1 (nl ?_)
  refine rt ?_
  exact ⟨_, rfl, rfl⟩
 replace h0f := sm h0f
 exfalso
 omega

theorem SysClose18B (b m : Nat) (ws : WS) (fd : Int) (hfd : fd < 0 ∨ 19 ≤ fd) :
    ACalls Tryz.prog 86 [wp b, .v (.int .i64 fd)] (WSt b m ws) (fun t S => t = .v (.int .i64 (-9)) ∧ S = WSt b m ws) := by
 refine ai Tryz.func86 Tryz.ntmps86 fun X w0 => ?_
 refine rs (y1 ?_)
 refine nl (rs (y2 ?_))
 refine kc (at29B b fd hfd) ?_
 rintro t8 S8 ⟨b', rfl, rfl⟩
 refine y1 ?_
 refine nl (sq (rs (y5 (nl ?_))))
 refine AW.dropAt 0 ?_
 refine cq (fun _ => ?_) fun h0f => ?_
 ·
  refine rs (y1 (nl ?_))
  refine rt ?_
  exact ⟨rfl, rfl⟩
 exact absurd rfl h0f

theorem SysRead20B (b m : Nat) (ws : WS) (fd : Int) (hfd : fd < 0 ∨ 19 ≤ fd) (k : Int) :
    ACalls Tryz.prog 102 [wp b, .v (.int .i64 fd), .v (.int .u64 k)] (WSt b m ws) (fun t S => t = .tup [sv [], .v (.int .i64 (-9))] ∧ S = WSt b m ws) := by
 refine ai Tryz.func102 Tryz.ntmps102 fun X w0 => ?_
 refine rs (y2 ?_)
 refine nl (rs (y2 ?_))
 refine kc (at29B b fd hfd) ?_
 rintro t13 S13 ⟨b', rfl, rfl⟩
 refine y1 ?_
 refine nl (sq (rs (y4 (nl ?_))))
 refine AW.dropAt 0 ?_
 refine bk (rs (y2 (nl ?_)))
 refine cq (fun h0t => ?_) fun _ => ?_
 ·
  cases h0t
 refine rs (y2 (nl ?_))
 refine cq (fun h1t => ?_) fun _ => ?_
 ·
  cases h1t
 refine sp (rs (y2 (nl ?_)))
 refine rt ?_
 exact ⟨rfl, rfl⟩

theorem SysWrite13B (b m : Nat) (ws : WS) (fd : Int) (hfd : fd < 0 ∨ 19 ≤ fd) (s : List UInt8) :
    ACalls Tryz.prog 103 [wp b, .v (.int .i64 fd), sv s] (WSt b m ws) (fun t S => t = .v (.int .i64 (-9)) ∧ S = WSt b m ws) := by
 refine ai Tryz.func103 Tryz.ntmps103 fun X w0 => ?_
 refine rs (y1 ?_)
 refine nl (rs (y2 ?_))
 refine kc (at29B b fd hfd) ?_
 rintro t12 S12 ⟨b', rfl, rfl⟩
 refine y1 ?_
 refine nl (sq (rs (y4 (nl ?_))))
 refine AW.dropAt 0 ?_
 refine bk (rs (y2 (nl ?_)))
 refine cq (fun h0t => ?_) fun _ => ?_
 ·
  cases h0t
 refine rs (y2 (nl ?_))
 refine cq (fun h1t => ?_) fun _ => ?_
 ·
  cases h1t
 refine rs (y2 (nl ?_))
 refine cq (fun h2t => ?_) fun _ => ?_
 ·
  cases h2t
 refine rs (y1 (nl ?_))
 refine rt ?_
 exact ⟨rfl, rfl⟩

theorem SysWrite13_0 (b m : Nat) (ws : WS) (j n : Nat) (hj : j < 19) (hw : WB n ws) (hk : ¬ (ws.opn.getD j default).kind = 2 ∧ ¬ (ws.opn.getD j default).kind = 3 ∧ ¬ (ws.opn.getD j default).kind = 5) (s : List UInt8) :
    ACalls Tryz.prog 103 [wp b, .v (.int .i64 (j : Int)), sv s] (WSt b m ws) (fun t S => t = .v (.int .i64 (-9)) ∧ S = WSt b m ws) := by
 obtain ⟨ho, htr, htx, hfl, hpl, hsi⟩ := hw
 refine ai Tryz.func103 Tryz.ntmps103 fun X w0 => ?_
 refine rs (y1 ?_)
 refine nl (rs (y2 ?_))
 refine kp (at29 b j hj) ?_
 refine y1 ?_
 refine nl (sq (rs (y3 ?_)))
 refine Y1 (Yv.loadBox rfl ag_3 (i := 0) rfl eV (kind_at (by omega))) ?_
 refine nl (bk (rs (y2 (nl ?_))))
 refine cq (fun h0t => ?_) fun _ => ?_
 ·
  exact absurd h0t hk.1
 refine rs (y2 (nl ?_))
 refine cq (fun h1t => ?_) fun _ => ?_
 ·
  exact absurd h1t hk.2.1
 refine rs (y2 (nl ?_))
 refine cq (fun h2t => ?_) fun _ => ?_
 ·
  exact absurd h2t hk.2.2
 refine rs (y1 (nl ?_))
 refine rt ?_
 exact ⟨rfl, rfl⟩

theorem SysRead20_0 (b m : Nat) (ws : WS) (j n : Nat) (hj : j < 19) (hw : WB n ws) (hk : ¬ (ws.opn.getD j default).kind = 1 ∧ ¬ (ws.opn.getD j default).kind = 4) (k : Int) :
    ACalls Tryz.prog 102 [wp b, .v (.int .i64 (j : Int)), .v (.int .u64 k)] (WSt b m ws) (fun t S => t = .tup [sv [], .v (.int .i64 (-9))] ∧ S = WSt b m ws) := by
 obtain ⟨ho, htr, htx, hfl, hpl, hsi⟩ := hw
 refine ai Tryz.func102 Tryz.ntmps102 fun X w0 => ?_
 refine rs (y2 ?_)
 refine nl (rs (y2 ?_))
 refine kp (at29 b j hj) ?_
 refine y1 ?_
 refine nl (sq (rs (y3 ?_)))
 refine Y1 (Yv.loadBox rfl ag_3 (i := 0) rfl eV (kind_at (by omega))) ?_
 refine nl (bk (rs (y2 (nl ?_))))
 refine cq (fun h0t => ?_) fun _ => ?_
 ·
  exact absurd h0t hk.1
 refine rs (y2 (nl ?_))
 refine cq (fun h1t => ?_) fun _ => ?_
 ·
  exact absurd h1t hk.2
 refine sp (rs (y2 (nl ?_)))
 refine rt ?_
 exact ⟨rfl, rfl⟩

theorem SysRead20_1 (b m : Nat) (ws : WS) (j n : Nat) (hj : j < 19) (hw : WB n ws) (hn : n ≤ 549755813888) (hk : (ws.opn.getD j default).kind = 1) (N : Nat) (hN : N ≤ 18446744073709551615) :
    ACalls Tryz.prog 102 [wp b, .v (.int .i64 (j : Int)), .v (.int .u64 (N : Int))] (WSt b m ws) (fun t S => t = .tup [sv (ws.stdin.take N), .v (.int .i64 ((ws.stdin.take N).length : Int))] ∧ S = WSt b m { ws with stdin := ws.stdin.drop N }) := by
 obtain ⟨ho, htr, htx, hfl, hpl, hsi⟩ := hw
 refine ai Tryz.func102 Tryz.ntmps102 fun X w0 => ?_
 refine rs (y2 ?_)
 refine nl (rs (y2 ?_))
 refine kp (at29 b j hj) ?_
 refine y1 ?_
 refine nl (sq (rs (y3 ?_)))
 refine Y1 (Yv.loadBox rfl ag_3 (i := 0) rfl eV (kind_at (by omega))) ?_
 refine nl (bk (rs (y2 (nl ?_))))
 refine cq (fun _ => ?_) fun h0f => ?_
 ·
  refine rq (q10 ?_)
  refine Q1 (Yv.convN_u64 rfl Tryz.underlying3 kd_29 eV (fun hg => by omega)) ?_
  refine Q1 (Yv.min2 rfl eV eV) ?_
  have e11 : (if (ws.stdin.length : Int) < (N : Int) then (ws.stdin.length : Int) else (N : Int)) = (((min N ws.stdin.length) : Nat) : Int) := by split <;> omega
  rw [e11]
  refine Q1 (Yv.sliceL rfl st_9 eV Bound.none_ (Bound.some_ eV (fun hg => rfl)) (fun hg => ⟨by omega, by omega⟩)) ?_
  rw [take_mn]
  have htl : (ws.stdin.take N).length ≤ ws.stdin.length := by rw [List.length_take]; omega
  refine q1 ?_
  refine nq (rs (y7 ?_))
  refine Y1 (Yv.sliceL rfl st_9 eV (Bound.some_ eV (fun hg => rfl)) Bound.none_ (fun hg => ⟨by omega, by omega⟩)) ?_
  refine y3 ?_
  refine nl (rs (y5 (nl ?_)))
  refine rt ?_
  exact ⟨rfl, congrArg (fun z => WSt b m { ws with stdin := z }) drop_tl⟩
 exact absurd hk h0f

theorem SysRead20G (b m : Nat) (ws : WS) (j q : Nat) (k : Int) (n : Nat) (hj : j < 19) (hk : (ws.opn.getD j default).kind = 4) (hq : q < ws.files.length) (hu : Uniq ws.files) (hnm : (ws.opn.getD j default).name = (ws.files.getD q default).name) (hw : WB n ws) (hn : n ≤ 549755813888) (h0 : 0 ≤ k) (h1 : k ≤ 18446744073709551615) :
    ACalls Tryz.prog 102 [wp b, .v (.int .i64 (j : Int)), .v (.int .u64 k)] (WSt b m ws) (fun t S => t = .tup [sv (rdG (ws.files.getD q default).bytes (ws.opn.getD j default).place k), .v (.int .i64 ((rdG (ws.files.getD q default).bytes (ws.opn.getD j default).place k).length : Int))] ∧ S = WSt b m { ws with opn := ws.opn.set j { (ws.opn.getD j default) with place := (ws.opn.getD j default).place + (rdG (ws.files.getD q default).bytes (ws.opn.getD j default).place k).length } }) := by
 obtain ⟨ho, htr, htx, hfl, hpl, hsi⟩ := hw
 have hfq : (ws.files.getD q default).bytes.length ≤ n := hfl _ (getD_mem' hq)
 have hrl := rdG_len (ws.files.getD q default).bytes (ws.opn.getD j default).place k
 have hpq : (ws.opn.getD j default).place ≤ n := hpl _ (getD_mem' (by omega))
 refine ai Tryz.func102 Tryz.ntmps102 fun X w0 => ?_
 refine rs (y2 ?_)
 refine nl (rs (y2 ?_))
 refine kp (at29 b j hj) ?_
 refine y1 ?_
 refine nl (sq (rs (y3 ?_)))
 refine Y1 (Yv.loadBox rfl ag_3 (i := 0) rfl eV (kind_at (by omega))) ?_
 refine nl (bk (rs (y2 (nl ?_))))
 refine cq (fun _ => ?_) fun _ => ?_
 ·
  omega
 refine rs (y2 (nl ?_))
 refine cq (fun _ => ?_) fun _ => ?_
 ·
  refine rq (q7 ?_)
  refine Q1 (Yv.loadBox rfl ag_9 (i := 0) rfl eV (name_at (by omega))) ?_
  refine Q1 (Yv.eqT (t' := .v (.slice (ws.files.getD q default).A (ws.files.getD q default).bytes.length (ws.files.getD q default).c)) (Yv.lookup1 (k := .s _) (i := 1) rfl mp_67 rfl eV eV rfl (files_good _)) (by rw [hnm, get_file hu hq]; rfl)) ?_
  refine q1 ?_
  refine nq (rs (y4 ?_))
  refine Y1 (Yv.loadBox rfl ag_3 (i := 0) rfl eV (place_at (by omega))) ?_
  refine y2 ?_
  refine Y1 (Yv.min2 rfl eV eV) ?_
  have e9 : (if ((ws.files.getD q default).bytes.length : Int) < ((ws.opn.getD j default).place : Int) then ((ws.files.getD q default).bytes.length : Int) else ((ws.opn.getD j default).place : Int)) = (((min (ws.opn.getD j default).place (ws.files.getD q default).bytes.length) : Nat) : Int) := by split <;> omega
  rw [e9]
  refine Y1 (Yv.sliceRowFrom (i := q + 3) (lo := (min (ws.opn.getD j default).place (ws.files.getD q default).bytes.length)) rfl ss_23 (file_row hq) eV (Bound.some_ eV (fun _ => rfl)) (fun hg => by omega)) ?_
  refine y1 (nl ?_)
  refine AW.rowLe (q + 3) (file_row hq) (fun hcap => ?_)
  refine rs (y4 ?_)
  refine Y1 (Yv.convN_u64 rfl Tryz.underlying3 kd_29 eV (fun hg => by omega)) ?_
  refine Y1 (Yv.min2 rfl eV eV) ?_
  have e10 : (if (((ws.files.getD q default).bytes.length - (min (ws.opn.getD j default).place (ws.files.getD q default).bytes.length) : Nat) : Int) < k then (((ws.files.getD q default).bytes.length - (min (ws.opn.getD j default).place (ws.files.getD q default).bytes.length) : Nat) : Int) else k) = (((rdG (ws.files.getD q default).bytes (ws.opn.getD j default).place k).length : Nat) : Int) := by rw [hrl]; split <;> omega
  rw [e10]
  refine Y1 (Yv.sliceV0 (m := (rdG (ws.files.getD q default).bytes (ws.opn.getD j default).place k).length) rfl ss_23 eV (Bound.some_ eV (fun _ => rfl)) (fun hg => by omega)) ?_
  refine y1 ?_
  refine nl (rs (y3 ?_))
  refine Y1 (Yv.loadBox rfl ag_3 (i := 0) rfl eV (place_at (by omega))) ?_
  refine y5 ?_
  refine AWL.storeBox (i := 0) rfl rfl rfl ag_3 rfl (E rfl rfl) (E rfl rfl) rfl rfl (by rw [wCells_len, ho]; omega) (nl ?_)
  refine AW.eqS (wst_desc (b := b) (m := m) (ws := ws) (j := j) (by omega) 2 1 [.v (.int .i64 (((ws.opn.getD j default).place + (rdG (ws.files.getD q default).bytes (ws.opn.getD j default).place k).length : Nat) : Int))] { (ws.opn.getD j default) with place := (ws.opn.getD j default).place + (rdG (ws.files.getD q default).bytes (ws.opn.getD j default).place k).length } (by decide) rfl) ?_
  refine rs (y1 ?_)
  refine Y1 (Yv.bytesStrPart (i := q + 3) (lo := (min (ws.opn.getD j default).place (ws.files.getD q default).bytes.length)) (m := (rdG (ws.files.getD q default).bytes (ws.opn.getD j default).place k).length) (n := (ws.files.getD q default).bytes.length) (s := (ws.files.getD q default).bytes) rfl by_23 st_9 (file_row hq) eV (fun hg => by omega)) ?_
  refine y4 (nl ?_)
  refine rt ?_
  have er : ((ws.files.getD q default).bytes.drop (min (ws.opn.getD j default).place (ws.files.getD q default).bytes.length)).take (rdG (ws.files.getD q default).bytes (ws.opn.getD j default).place k).length = (rdG (ws.files.getD q default).bytes (ws.opn.getD j default).place k) := by
   rw [hrl, show (ws.files.getD q default).bytes.drop (min (ws.opn.getD j default).place (ws.files.getD q default).bytes.length) = (ws.files.getD q default).bytes.drop (ws.opn.getD j default).place from by
    rcases Nat.le_total (ws.opn.getD j default).place (ws.files.getD q default).bytes.length with h | h
    ·rw [Nat.min_eq_left h]
    ·rw [Nat.min_eq_right h, List.drop_length, List.drop_of_length_le h]]
   unfold rdG
   rcases Nat.le_total k.toNat ((ws.files.getD q default).bytes.length - (ws.opn.getD j default).place) with h | h
   ·rw [Nat.min_eq_left h]
   ·rw [Nat.min_eq_right h, List.take_of_length_le (by rw [List.length_drop]; exact Nat.le_refl _), List.take_of_length_le (by rw [List.length_drop]; exact h)]
  rw [er]
  exact ⟨rfl, rfl⟩
 omega

structure RP (n : Nat) (p : PW) : Prop where
 pb : PB n p
 nm : Named p
 nd : (p.files.map (·.1)).Nodup
 ns : ∀ f ∈ p.files, f.1.length ≤ 255
theorem abs_names (l : List FileR) : (l.map nb).map (·.1) = l.map (·.name) := by
 rw [List.map_map]
 rfl
theorem RP.uq {n : Nat} {ws : WS} (h : RP n (absW ws)) : Uniq ws.files := by
 have := h.nd
 unfold absW at this
 simp only at this
 rw [abs_names] at this
 exact this
theorem RP.wb {n : Nat} {ws : WS} (h : RP n (absW ws)) : WB n ws := ⟨h.pb.opn, h.pb.tr, h.pb.txt, fun f hf => h.pb.fl (nb f) (List.mem_map_of_mem hf), h.pb.pl, h.pb.sin⟩
theorem hasK_get (name : List UInt8) (l : List FileR) : hasK name l = (getP name (l.map nb)).isSome := by rw [hasK_any, any_none]
theorem openV_abs (name : List UInt8) (flags : Int) (ws : WS) : openR name flags ws = openV name flags (absW ws) := by
 unfold openR openV
 have e1 : ((flags ≠ 0 ∧ flags ≠ 577) ∨ 0 ≤ Lib.indexByte name 0) = ((flags ≠ 0 ∧ flags ≠ 577) ∨ badN name = true) := by rw [propext (idx_bad name)]
 have e2 : (flags = 0 ∧ hasK name ws.files = false) = (flags = 0 ∧ getP name (absW ws).files = none) := by
  rw [hasK_get]
  show (flags = 0 ∧ (getP name (ws.files.map nb)).isSome = false) = (flags = 0 ∧ getP name (ws.files.map nb) = none)
  cases getP name (ws.files.map nb) <;> simp
 simp only [e1, e2]
 rfl
theorem putF_nb (f : FileR) : ∀ l : List FileR, (putF f l).map nb = putP f.name f.bytes (l.map nb)
 | [] => rfl
 | g :: r => by
  rw [putF, List.map_cons, putP]
  by_cases h : g.name = f.name
  ·rw [if_pos h, if_pos (show (nb g).1 = f.name from h)]
   rfl
  ·rw [if_neg h, if_neg (show ¬ (nb g).1 = f.name from h), List.map_cons, putF_nb f r]
theorem openS_abs (name : List UInt8) (flags : Int) (A : Option Addr) (c : Nat) (tA : Option Addr) (tc : Nat) (ws : WS) : absW (openS name flags A c tA tc ws) = openP name flags (absW ws) := by
 unfold openS openP
 rw [openV_abs]
 split
 ·rfl
 split
 ·unfold absW
  simp only [putF_nb]
 rfl
theorem putP_ns {name : Nm} {b : List UInt8} {l : Fl} (h : ∀ f ∈ l, f.1.length ≤ 255) (hn : name.length ≤ 255) : ∀ f ∈ putP name b l, f.1.length ≤ 255 := by
 intro f hf
 induction l with
 | nil => rw [putP] at hf; rw [List.mem_singleton.1 hf]; exact hn
 | cons x r ih =>
  rw [putP] at hf
  split at hf
  ·rcases List.mem_cons.1 hf with rfl | hf
   ·exact hn
   ·exact h f (List.mem_cons_of_mem _ hf)
  ·rcases List.mem_cons.1 hf with rfl | hf
   ·exact h _ (List.mem_cons_self ..)
   ·exact ih (fun g hg => h g (List.mem_cons_of_mem _ hg)) hf
theorem open_short {name : Nm} {flags : Int} {p : PW} (h : ¬ openV name flags p < 0) : name.length ≤ 255 := by
 rcases Nat.lt_or_ge 255 name.length with q | q
 ·exfalso
  unfold openV at h
  rw [if_pos q] at h
  exact h (by decide)
 exact q
theorem RP.of_open {n : Nat} {p : PW} (h : RP n p) (name : Nm) (flags : Int) : RP (n + 1) (openP name flags p) := by
 refine ⟨?_, named_open h.nm name flags, ?_, ?_⟩
 ·by_cases hf : flags = 577
  ·rw [hf]; exact h.pb.opened name
  exact (h.pb.open0 name flags hf).mono (by omega)
 ·unfold openP
  split
  ·exact h.nd
  split
  ·exact putP_nodup h.nd
  exact h.nd
 unfold openP
 split
 ·exact h.ns
 rename_i hv
 split
 ·exact putP_ns h.ns (open_short hv)
 exact h.ns
theorem RP.close {n : Nat} {p : PW} (h : RP n p) (fd : Int) : RP n (closeP fd p) := by
 refine ⟨h.pb.close fd, named_close h.nm fd, ?_, ?_⟩
 ·unfold closeP
  split
  ·exact h.nd
  exact h.nd
 unfold closeP
 split
 ·exact h.ns
 exact h.ns
theorem RP.read {n : Nat} {p : PW} (h : RP n p) (fd N : Int) : RP n (readP fd N p) := by
 have hf : (readP fd N p).files = p.files := by
  unfold readP
  split
  ·rfl
  split
  ·rfl
  ·rfl
 exact ⟨h.pb.read fd N, named_read h.nm fd N, by rw [hf]; exact h.nd, by rw [hf]; exact h.ns⟩
theorem RP.write {n : Nat} {p : PW} (h : RP n p) (fd : Int) (s : List UInt8) : RP (n + 1 + s.length) (writeP fd s p) := by
 refine ⟨h.pb.write fd s, named_write h.nm fd s, ?_, ?_⟩
 ·unfold writeP
  split
  ·exact h.nd
  split
  ·exact h.nd
  split
  ·split
   ·exact h.nd
   exact putP_nodup h.nd
  exact h.nd
 unfold writeP
 split
 ·exact h.ns
 split
 ·exact h.ns
 split
 ·rename_i hk
  split
  ·exact h.ns
  obtain ⟨_, _, _, hm, he⟩ := kind_in h.nm (fd := fd) (by rw [hk]; decide)
  obtain ⟨b, hb⟩ := Option.isSome_iff_exists.1 (h.nm.2 _ hm (.inr (he ▸ hk)))
  exact putP_ns h.ns (h.ns _ (getP_mem hb))
 exact h.ns
theorem RP.mono {n m : Nat} {p : PW} (h : RP n p) (hm : n ≤ m) : RP m p := ⟨h.pb.mono hm, h.nm, h.nd, h.ns⟩
theorem RP.wf {n : Nat} {p : PW} (h : RP n p) (name : Nm) (s : List UInt8) : RP (n + 2 + s.length) (wfP name s p) := by
 refine ⟨h.pb.wf name s, named_wf h.nm name s, ?_, ?_⟩
 ·unfold wfP
  split
  ·exact h.nd
  exact (((h.of_open name 577).write _ s).close _).nd
 unfold wfP
 split
 ·exact h.ns
 exact (((h.of_open name 577).write _ s).close _).ns
theorem kind_nat {p : PW} {j : Nat} (hj : j < 19) : kindP (j : Int) p = (p.opn.getD j default).kind := by
 unfold kindP
 rw [if_neg (by omega)]
 rfl
theorem kind_bad {p : PW} {fd : Int} (h : fd < 0 ∨ 19 ≤ fd) : kindP fd p = 0 := by
 unfold kindP
 rw [if_pos h]
theorem file_of {n : Nat} {ws : WS} (h : RP n (absW ws)) {j : Nat} (hj : j < 19) (hk : (ws.opn.getD j default).kind = 4 ∨ (ws.opn.getD j default).kind = 5) :
    ∃ q, q < ws.files.length ∧ (ws.opn.getD j default).name = (ws.files.getD q default).name ∧ getP (ws.opn.getD j default).name (absW ws).files = some (ws.files.getD q default).bytes ∧
     ∀ x, putP (ws.opn.getD j default).name x (absW ws).files = (absW ws).files.set q ((ws.opn.getD j default).name, x) := by
 have ho : ws.opn.length = 19 := h.pb.opn
 have hsome := h.nm.2 _ (getD_mem' (l := ws.opn) (j := j) (by omega)) hk
 obtain ⟨q, hfq, hq, hqn, hqg, hqp⟩ := (findP_get (name := (ws.opn.getD j default).name) (l := (absW ws).files)).resolve_left (fun h => by rw [h.2] at hsome; cases hsome)
 have hq' : q < ws.files.length := by
  have h := hq
  unfold absW at h
  rwa [List.length_map] at h
 have e : (absW ws).files.getD q default = nb (ws.files.getD q default) := nb_at hq'
 rw [e] at hqn hqg
 exact ⟨q, hq', hqn.symm, hqg, hqp⟩
theorem rSysClose (b m : Nat) (ws : WS) (n : Nat) (h : RP n (absW ws)) (fd : Int) : ACalls Tryz.prog 86 [wp b, .v (.int .i64 fd)] (WSt b m ws) (fun t S => t = .v (.int .i64 (closeV fd (absW ws))) ∧ ∃ ws', absW ws' = closeP fd (absW ws) ∧ S = WSt b m ws') := by
 by_cases hv : fd < 0 ∨ 19 ≤ fd
 ·refine (SysClose18B b m ws fd hv).mono fun t S hr => ?_
  obtain ⟨rfl, rfl⟩ := hr
  refine ⟨?_, ws, ?_, rfl⟩
  ·unfold closeV
   rw [if_pos (kind_bad hv)]
  unfold closeP
  rw [if_pos (kind_bad hv)]
 obtain ⟨j, rfl⟩ : ∃ j : Nat, fd = (j : Int) := ⟨fd.toNat, by omega⟩
 have hj : j < 19 := by omega
 refine (SysClose18 b m ws j n hj h.wb).mono fun t S hr => ?_
 obtain ⟨rfl, rfl⟩ := hr
 have hk : kindP (j : Int) (absW ws) = (ws.opn.getD j default).kind := kind_nat hj
 refine ⟨?_, _, ?_, rfl⟩
 ·unfold closeV
  rw [hk]
 unfold closeP closeF
 rw [hk]
 split <;> rfl
theorem rSysRead (b m : Nat) (ws : WS) (n : Nat) (h : RP n (absW ws)) (hn : n ≤ 549755813888) (fd : Int) (N : Nat) (hN : N ≤ 18446744073709551615) : ACalls Tryz.prog 102 [wp b, .v (.int .i64 fd), .v (.int .u64 (N : Int))] (WSt b m ws) (fun t S => t = .tup [sv (readV fd (N : Int) (absW ws)).1, .v (.int .i64 (readV fd (N : Int) (absW ws)).2)] ∧ ∃ ws', absW ws' = readP fd (N : Int) (absW ws) ∧ S = WSt b m ws') := by
 have bad : ∀ (fd : Int), ¬ kindP fd (absW ws) = 1 → ¬ kindP fd (absW ws) = 4 → readV fd (N : Int) (absW ws) = ([], -9) ∧ readP fd (N : Int) (absW ws) = absW ws := fun fd h1 h4 => by
  unfold readV readP
  rw [if_neg h1, if_neg h4, if_neg h1, if_neg h4]
  exact ⟨rfl, rfl⟩
 by_cases hv : fd < 0 ∨ 19 ≤ fd
 ·refine (SysRead20B b m ws fd hv (N : Int)).mono fun t S hr => ?_
  obtain ⟨rfl, rfl⟩ := hr
  have hb := bad fd (by rw [kind_bad hv]; decide) (by rw [kind_bad hv]; decide)
  rw [hb.1, hb.2]
  exact ⟨rfl, ws, rfl, rfl⟩
 obtain ⟨j, rfl⟩ : ∃ j : Nat, fd = (j : Int) := ⟨fd.toNat, by omega⟩
 have hj : j < 19 := by omega
 have hk : kindP (j : Int) (absW ws) = (ws.opn.getD j default).kind := kind_nat hj
 by_cases h1 : (ws.opn.getD j default).kind = 1
 ·refine (SysRead20_1 b m ws j n hj h.wb hn h1 N hN).mono fun t S hr => ?_
  obtain ⟨rfl, rfl⟩ := hr
  unfold readV readP
  rw [hk, if_pos h1, if_pos h1]
  exact ⟨rfl, _, rfl, rfl⟩
 by_cases h4 : (ws.opn.getD j default).kind = 4
 ·obtain ⟨q, hq, hqn, hqg, hqp⟩ := file_of h hj (.inl h4)
  refine (SysRead20G b m ws j q (N : Int) n hj h4 hq h.uq hqn h.wb hn (by omega) (by omega)).mono fun t S hr => ?_
  obtain ⟨rfl, rfl⟩ := hr
  have e : ((absW ws).opn.getD (j : Int).toNat default) = ws.opn.getD j default := rfl
  unfold readV readP
  rw [hk, if_neg h1, if_pos h4, if_neg h1, if_pos h4, e, hqg]
  exact ⟨rfl, _, rfl, rfl⟩
 refine (SysRead20_0 b m ws j n hj h.wb ⟨h1, h4⟩ (N : Int)).mono fun t S hr => ?_
 obtain ⟨rfl, rfl⟩ := hr
 have hb := bad (j : Int) (by rw [hk]; exact h1) (by rw [hk]; exact h4)
 rw [hb.1, hb.2]
 exact ⟨rfl, ws, rfl, rfl⟩
theorem rSysWrite (b m : Nat) (ws : WS) (n : Nat) (h : RP n (absW ws)) (hn : n ≤ 549755813888) (fd : Int) (s : List UInt8) (hs : s.length ≤ 549755813888) : ACalls Tryz.prog 103 [wp b, .v (.int .i64 fd), sv s] (WSt b m ws) (fun t S => t = .v (.int .i64 (writeV fd s (absW ws))) ∧ ∃ ws', absW ws' = writeP fd s (absW ws) ∧ S = WSt b m ws') := by
 have bad : ∀ (fd : Int), ¬ kindP fd (absW ws) = 2 → ¬ kindP fd (absW ws) = 3 → ¬ kindP fd (absW ws) = 5 → writeV fd s (absW ws) = -9 ∧ writeP fd s (absW ws) = absW ws := fun fd h2 h3 h5 => by
  unfold writeV writeP
  rw [if_neg (fun q => q.elim h2 (fun q => q.elim h3 h5)), if_neg h2, if_neg h3, if_neg h5]
  exact ⟨rfl, rfl⟩
 by_cases hv : fd < 0 ∨ 19 ≤ fd
 ·refine (SysWrite13B b m ws fd hv s).mono fun t S hr => ?_
  obtain ⟨rfl, rfl⟩ := hr
  have hb := bad fd (by rw [kind_bad hv]; decide) (by rw [kind_bad hv]; decide) (by rw [kind_bad hv]; decide)
  rw [hb.1, hb.2]
  exact ⟨rfl, ws, rfl, rfl⟩
 obtain ⟨j, rfl⟩ : ∃ j : Nat, fd = (j : Int) := ⟨fd.toNat, by omega⟩
 have hj : j < 19 := by omega
 have hk : kindP (j : Int) (absW ws) = (ws.opn.getD j default).kind := kind_nat hj
 by_cases h2 : (ws.opn.getD j default).kind = 2
 ·refine (SysWrite13_2 b m ws j s n hj h2 h.wb (by omega) (by omega)).mono fun t S hr => ?_
  obtain ⟨rfl, A, c, rfl⟩ := hr
  unfold writeV writeP
  rw [hk, if_pos (.inl h2), if_pos h2]
  exact ⟨rfl, _, rfl, rfl⟩
 by_cases h3 : (ws.opn.getD j default).kind = 3
 ·refine (SysWrite13_3 b m ws j s n hj h3 h.wb (by omega) (by omega)).mono fun t S hr => ?_
  obtain ⟨rfl, A, c, rfl⟩ := hr
  unfold writeV writeP
  rw [hk, if_pos (.inr (.inl h3)), if_neg h2, if_pos h3]
  exact ⟨rfl, _, rfl, rfl⟩
 by_cases h5 : (ws.opn.getD j default).kind = 5
 ·obtain ⟨q, hq, hqn, hqg, hqp⟩ := file_of h hj (.inr h5)
  refine (SysWrite13_5 b m ws j q s n hj h5 hq h.uq hqn h.wb hn hs).mono fun t S hr => ?_
  obtain ⟨rfl, A, c, tA, tc, rfl⟩ := hr
  have e : ((absW ws).opn.getD (j : Int).toNat default) = ws.opn.getD j default := rfl
  unfold writeV writeP
  rw [hk, if_pos (.inr (.inr h5)), if_neg h2, if_neg h3, if_pos h5, e, hqg]
  refine ⟨rfl, _, ?_, rfl⟩
  unfold wrF
  split
  ·rfl
  rw [hqp]
  unfold absW
  simp only [List.map_set]
  rw [hqn]
  rfl
 refine (SysWrite13_0 b m ws j n hj h.wb ⟨h2, h3, h5⟩ s).mono fun t S hr => ?_
 obtain ⟨rfl, rfl⟩ := hr
 have hb := bad (j : Int) (by rw [hk]; exact h2) (by rw [hk]; exact h3) (by rw [hk]; exact h5)
 rw [hb.1, hb.2]
 exact ⟨rfl, ws, rfl, rfl⟩
theorem rSysOpen (b m : Nat) (ws : WS) (n : Nat) (h : RP n (absW ws)) (hn : n ≤ 549755813888) (name : List UInt8) (flags : Int) : ACalls Tryz.prog 104 [wp b, sv name, .v (.int .i64 flags)] (WSt b m ws) (fun t S => t = .v (.int .i64 (openV name flags (absW ws))) ∧ ∃ ws', absW ws' = openP name flags (absW ws) ∧ S = WSt b m ws') := by
 refine (SysOpen17 b m ws name flags n h.wb hn).mono fun t S hr => ?_
 obtain ⟨rfl, A, c, tA, tc, rfl⟩ := hr
 exact ⟨by rw [openV_abs], _, openS_abs name flags A c tA tc ws, rfl⟩
end Go.Proofs.YtlfklgganokgdaaGreat.V

namespace Go.Proofs.YtlfklgganokgdaaGreat
open Go Go.RowKit
structure Pc where
 prog : Prog
 heap : Wd64
 strict : Bool
 ent : Bool
 st : Int
 ans : Wd64
 code : Int
 steps : Int
def psOf (c : Pc) (lab w pg : T) : PS := ⟨c.prog, lab, c.heap, c.strict, w, pg, c.ent, c.st, c.ans, c.code, c.steps⟩
structure Mc where
 c : Pc
 x : Fr
 bl : List Fr
 mem : Mf
 w : V.PW
def fnOf (p : Prog) (x : Fr) : Fn := p.funs.getD x.f.toNat default
def insOf (p : Prog) (x : Fr) : Ins := (fnOf p x).code.getD x.at_.toNat default
def codeOf (v : Wd64) : Int := IntKind.i64.wrap ((v &&& 255#64).toNat : Int)
def backC (c : Pc) (v : Wd64) : Pc := if c.ent = true then { c with st := 3, ans := v } else { c with st := 1, code := codeOf v }
theorem back_ps (c : Pc) (l w p : T) (v : Wd64) : backP (psOf c l w p) v = psOf (backC c v) l w p := by
 unfold backP backC psOf
 dsimp only
 split <;> rfl
def backM (m : Mc) (v : Wd64) : Mc :=
 match m.bl with
 | [] => { m with c := backC m.c v }
 | y :: r => { m with x := setD y m.x.d v, bl := r }
def argsF (x : Fr) (i : Ins) : List Wd64 := i.args.map (rA x)
def whereOf (p : Prog) (x : Fr) (l : Int) : Int := getL l (whL (fnOf p x).code)
def toN (x : Fr) (i : Ins) : Wd64 := (rA x i.a - 4194304#64) / 16#64
def badTo (p : Prog) (x : Fr) (i : Ins) : Bool :=
 ((decide (rA x i.a < 4194304#64) || !decide ((rA x i.a - 4194304#64) % 16#64 = 0#64)) || decide (wI (p.funs.length : Int) ≤ toN x i)) || !decide ((p.funs.getD (toN x i).toNat default).params = (i.args.length : Int))
def calleeF (p : Prog) (x : Fr) (i : Ins) : Option Nat :=
 if i.kind = 23 ∨ i.kind = 25 then (if badTo p x i = true then none else some (toN x i).toNat) else some i.f.toNat
def callF (strict : Bool) (x : Fr) : Fr := { x with at_ := x.at_ + 1, set := if strict = true then List.replicate x.nr false else x.set }
def jumpM (m : Mc) (i : Ins) : Option Mc :=
 match calleeF m.c.prog m.x i with
 | none => none
 | some f =>
  if i.kind = 24 ∨ i.kind = 25 then some { m with x := openFr (m.c.prog.funs.getD f default) f (argsF m.x i) m.x.d }
  else if 1048576 ≤ m.bl.length + 1 then none
  else some { m with x := openFr (m.c.prog.funs.getD f default) f (argsF m.x i) i.d, bl := callF m.c.strict m.x :: m.bl }
/-! ### system calls -/
def sysA (x : Fr) (i : Ins) (k : Nat) : Wd64 := if k < i.args.length then rA x (i.args.getD k default) else 0#64
def bytesAt (mem : Mf) (a : Wd64) (n : Nat) : List UInt8 := (List.range n).map fun (k : Nat) => mem (a + wI (k : Int))
def putsN (m : Mf) (a : Wd64) (t : List UInt8) : Nat → Mf
 | 0 => m
 | n + 1 => updM (putsN m a t n) (a + wI (n : Int)) (t.getD n 0)
inductive NmR where
 | bad : NmR
 | long : NmR
 | is : List UInt8 → NmR
def nameF (th : Wd64 → Bool) (mem : Mf) (a : Wd64) : Nat → Nat → List UInt8 → NmR
 | 0, _, _ => .long
 | n + 1, k, acc => if decide (a + wI (k : Int) < a) = true ∨ th (a + wI (k : Int)) = false then .bad else if mem (a + wI (k : Int)) = 0 then .is acc else nameF th mem a n (k + 1) (acc ++ [mem (a + wI (k : Int))])
def thereC (c : Pc) (a n : Wd64) : Bool := thereF (psData c.prog) c.heap a n
def badMem (c : Pc) (a n : Wd64) : Bool := decide (0#64 < n) && !thereC c a n
structure SysR where
 n : Int
 mem : Mf
 w : V.PW
def rdM (c : Pc) (mem : Mf) (w : V.PW) (fd : Int) (a n : Wd64) : SysR :=
 if 2147483648#64 < n then ⟨-22, mem, w⟩ else if badMem c a n = true then ⟨-14, mem, w⟩
 else ⟨(V.readV fd n.toNat w).2, putsN mem a (V.readV fd n.toNat w).1 (V.readV fd n.toNat w).1.length, V.readP fd n.toNat w⟩
def wrM (c : Pc) (mem : Mf) (w : V.PW) (fd : Int) (a n : Wd64) : SysR :=
 if 2147483648#64 < n then ⟨-22, mem, w⟩ else if badMem c a n = true then ⟨-14, mem, w⟩
 else ⟨V.writeV fd (bytesAt mem a n.toNat) w, mem, V.writeP fd (bytesAt mem a n.toNat) w⟩
def opM (c : Pc) (mem : Mf) (w : V.PW) (a : Wd64) (flags : Int) : SysR :=
 match nameF (fun z => thereC c z 1#64) mem a 256 0 [] with
 | .bad => ⟨-14, mem, w⟩
 | .long => ⟨-36, mem, w⟩
 | .is l => ⟨V.openV l flags w, mem, V.openP l flags w⟩
def clM (mem : Mf) (w : V.PW) (fd : Int) : SysR := ⟨V.closeV fd w, mem, V.closeP fd w⟩
def sysR (m : Mc) (i : Ins) : Option SysR :=
 if i.imm = 0 then some (rdM m.c m.mem m.w (sI (sysA m.x i 0)) (sysA m.x i 1) (sysA m.x i 2))
 else if i.imm = 1 then some (wrM m.c m.mem m.w (sI (sysA m.x i 0)) (sysA m.x i 1) (sysA m.x i 2))
 else if i.imm = 2 then some (opM m.c m.mem m.w (sysA m.x i 0) (sI (sysA m.x i 1)))
 else if i.imm = 3 then some (clM m.mem m.w (sI (sysA m.x i 0)))
 else none
def sysM (m : Mc) (i : Ins) : Option Mc :=
 if i.imm = 60 then some { m with c := { m.c with st := 1, code := codeOf (sysA m.x i 0) } }
 else match sysR m i with
  | none => none
  | some r => some { m with x := goF (setD m.x i.d (wI r.n)), mem := r.mem, w := r.w }
/-! ### a step -/
def adF (x : Fr) (i : Ins) : Wd64 := rA x i.a + wI i.imm
def memOk (c : Pc) (a : Wd64) (z : Int) : Bool := sizeOk z && thereC c a (wI z)
def jmpF (p : Prog) (x : Fr) (i : Ins) : Fr := { x with at_ := if i.kind = 20 ∨ holdsF i.cond (rA x i.a) (rA x i.b) = true then whereOf p x i.l else x.at_ + 1 }
def stepM (R : Int → Wd64 → Wd64 → Wd64) (m : Mc) (i : Ins) : Option Mc :=
 if okS m.x.set (readsF i) = false then none
 else if i.kind = 20 ∨ i.kind = 21 then some { m with x := jmpF m.c.prog m.x i }
 else if i.kind = 26 then some (backM m (rA m.x i.a))
 else if i.kind = 22 ∨ i.kind = 23 ∨ i.kind = 24 ∨ i.kind = 25 then jumpM m i
 else if i.kind = 18 then (if memOk m.c (adF m.x i) i.size = true then some { m with x := goF m.x, mem := putsF m.mem (adF m.x i) (rA m.x i.b) i.size.toNat } else none)
 else if i.kind = 17 then (if memOk m.c (adF m.x i) i.size = true then some { m with x := goF (setD m.x i.d (leF m.mem (adF m.x i) i.size.toNat)) } else none)
 else if i.kind = 30 then sysM m i
 else (stepA R m.c.heap m.x i).map fun x => { m with x := x }
def stuckC (m : Mc) : Mc := { m with c := { m.c with st := 2 } }
def tickC (m : Mc) : Mc := { m with c := { m.c with steps := m.c.steps + 1 } }
def skipL (L : List Ins) : Nat → Nat → Nat
 | 0, a => a
 | n + 1, a => if (L.getD a default).kind = 19 then skipL L n (a + 1) else a
def advF (p : Prog) (x : Fr) : Fr := { x with at_ := (skipL (fnOf p x).code ((fnOf p x).code.length - x.at_.toNat) x.at_.toNat : Nat) }
def advM (m : Mc) : Mc := { m with x := advF m.c.prog m.x }
def runM (R : Int → Wd64 → Wd64 → Wd64) : Nat → Mc → Mc
 | 0, m => m
 | n + 1, m => if m.c.st ≠ 0 then m else
  match stepM R (advM m) (insOf m.c.prog (advM m).x) with
  | none => stuckC (advM m)
  | some q => runM R n (tickC q)
/-! ### what is kept -/
structure FrIn (p : Prog) (x : Fr) : Prop where
 f0 : 0 ≤ x.f
 f1 : x.f.toNat < p.funs.length
 nr : x.nr = (fnOf p x).regs.toNat
 ns : x.ns = (fnOf p x).slots.toNat
 ok : FrOk x
 a0 : 0 ≤ x.at_
 a1 : x.at_.toNat < (fnOf p x).code.length
def Chain : Fr → List Fr → Prop
 | _, [] => True
 | x, y :: r => (0 ≤ x.d ∧ x.d < (y.nr : Int)) ∧ Chain y r
structure MOk (p : Prog) (m : Mc) : Prop where
 prog : m.c.prog = p
 top : FrIn p m.x
 bl : ∀ y ∈ m.bl, FrIn p y
 ch : Chain m.x m.bl
 dep : m.bl.length < 1048576
theorem FrIn.fn {p : Prog} {x : Fr} (hp : ProgOk p) (h : FrIn p x) : FnOk p (fnOf p x) := hp.fn _ (getD_mem h.f1)
theorem FrIn.ins {p : Prog} {x : Fr} (hp : ProgOk p) (h : FrIn p x) : InsOk p (fnOf p x) (cntL (fnOf p x).code) (insOf p x) := (h.fn hp).ins _ (getD_mem h.a1)
theorem FrIn.more {p : Prog} {x : Fr} (hp : ProgOk p) (h : FrIn p x) (hk : endsF (insOf p x).kind = false) : x.at_.toNat + 1 < (fnOf p x).code.length := by
 have hl := (h.fn hp).last
 have h1 := h.a1
 rcases Nat.lt_or_ge (x.at_.toNat + 1) (fnOf p x).code.length with q | q
 ·exact q
 exfalso
 unfold lastK at hl
 rw [show (fnOf p x).code.length - 1 = x.at_.toNat by omega] at hl
 unfold insOf at hk
 rw [hl] at hk; cases hk
theorem FrIn.jump {p : Prog} {x : Fr} (hp : ProgOk p) (h : FrIn p x) {j : Int} (hj : j ∈ nextF (whL (fnOf p x).code) (insOf p x) x.at_.toNat) : FrIn p { x with at_ := j } := by
 have := next_in (h.fn hp) h.a1 j hj
 exact ⟨h.f0, h.f1, h.nr, h.ns, ⟨h.ok.r, h.ok.s, h.ok.t, h.ok.h⟩, this.1, this.2⟩
theorem FrIn.go {p : Prog} {x : Fr} (hp : ProgOk p) (h : FrIn p x) (hk : endsF (insOf p x).kind = false) : FrIn p (goF x) := by
 have := h.more hp hk
 have := h.a0
 exact ⟨h.f0, h.f1, h.nr, h.ns, goF_ok h.ok, by show 0 ≤ x.at_ + 1; omega, by show (x.at_ + 1).toNat < (fnOf p x).code.length; omega⟩
theorem FrIn.setD {p : Prog} {x : Fr} (h : FrIn p x) (d : Int) (v : Wd64) : FrIn p (setD x d v) := ⟨h.f0, h.f1, h.nr, h.ns, setD_ok h.ok d v, h.a0, h.a1⟩
theorem FrIn.call {p : Prog} {x : Fr} (hp : ProgOk p) (h : FrIn p x) (hk : endsF (insOf p x).kind = false) (s : Bool) : FrIn p (callF s x) := by
 have g := h.go hp hk
 refine ⟨g.f0, g.f1, g.nr, g.ns, ⟨g.ok.r, g.ok.s, ?_, g.ok.h⟩, g.a0, g.a1⟩
 show (if s = true then List.replicate x.nr false else x.set).length = x.nr
 split
 ·exact List.length_replicate ..
 exact h.ok.t
theorem FrIn.open {p : Prog} (hp : ProgOk p) {f : Nat} (hf : f < p.funs.length) {args : List Wd64} (ha : (args.length : Int) = (p.funs.getD f default).params) (d : Int) : FrIn p (openFr (p.funs.getD f default) f args d) := by
 have h := hp.fn _ (getD_mem hf)
 have e : fnOf p (openFr (p.funs.getD f default) f args d) = p.funs.getD f default := rfl
 have h1 := h.par2
 refine ⟨by show (0 : Int) ≤ (f : Int); omega, hf, by rw [e]; rfl, by rw [e]; rfl, ⟨?_, ?_, ?_, ?_⟩, by show (0 : Int) ≤ 0; omega, by rw [e]; exact h.code⟩
 ·show (rJ args (p.funs.getD f default).regs.toNat args.length).length = (p.funs.getD f default).regs.toNat
  exact rj_len (Nat.le_refl _) (by omega)
 ·exact List.length_replicate ..
 ·show (sJ (p.funs.getD f default).regs.toNat args.length).length = (p.funs.getD f default).regs.toNat
  exact sj_len (by omega)
 exact List.length_replicate ..
theorem Chain.top {x x' : Fr} {l : List Fr} (h : Chain x l) (hd : x'.d = x.d) : Chain x' l := by
 cases l with
 | nil => trivial
 | cons y r => exact ⟨by rw [hd]; exact h.1, h.2⟩

theorem pmA2 {α : Type} {a0 a1 a2 a3 a4 a5 a6 a7 a8 a9 a10 : α} {Z : List α} : (a10 :: a8 :: a1 :: a4 :: a0 :: a2 :: a3 :: a5 :: a9 :: a6 :: a7 :: Z).Perm (a0 :: a1 :: a2 :: a3 :: a4 :: a5 :: a6 :: a7 :: a8 :: a9 :: a10 :: Z) := pk
theorem pmB2 {α : Type} {a0 a1 a2 a3 a4 a5 a6 a7 a8 a9 a10 : α} {Z : List α} : (a4 :: a2 :: a5 :: a6 :: a3 :: a7 :: a1 :: a8 :: a0 :: a9 :: a10 :: Z).Perm (a0 :: a1 :: a2 :: a3 :: a4 :: a5 :: a6 :: a7 :: a8 :: a9 :: a10 :: Z) := pk
theorem sub_mid {α : Type} (a b c : List α) : (a ++ c).Sublist (a ++ (b ++ c)) := (List.sublist_append_right b c).append_left a
theorem lab_at {bs : List Nat} {j : Nat} (h : j < bs.length) : (bs.map mapT)[j * 1 + 0]? = some (mapT (bs.getD j 0)) := by
 rw [Nat.mul_one, Nat.add_zero, List.getElem?_map, List.getElem?_eq_getElem h]
 simp [h]
theorem do32J (s g n c gl nf lc : Nat) (ps : PS) (pre : List T) (x : Fr) (a : FA) (i : Ins) (bs : List Nat) (m : LM) (hx : FrOk x) (hlab : ps.lab = .v (.slice (sg gl) nf lc)) (hnf : bs.length = nf) (hf0 : 0 ≤ x.f) (hf1 : x.f.toNat < nf) (hk : i.kind = 20 ∨ i.kind = 21) (ha : (hasF i.kind).a = true → 0 ≤ i.a ∧ i.a < (x.nr : Int)) (hb : (hasF i.kind).b = true → 0 ≤ i.b ∧ i.b < (x.nr : Int)) (hr : ∀ r ∈ readsF i, 0 ≤ r ∧ r < (x.nr : Int)) (hg : i.args.length ≤ 1048576) (hat : 0 ≤ x.at_ ∧ x.at_ ≤ 4611686018427387904) :
    ACalls Tryz.prog 37 [pv s, .ep (.slice (sg g) n c) pre.length, .agg (insCells i)] (([Ent.box s 83 (psC ps (.v (.slice (sg g) n c))), Ent.row (sg g) n c 104 7 (pre ++ frC x a)] ++ frR x a) ++ [Ent.row (sg gl) nf lc 87 1 (bs.map mapT), Ent.map (bs.getD x.f.toNat 0) (lmT m)]) (fun t S => t = bv (okS x.set (readsF i)) ∧ S = (([Ent.box s 83 (psC ps (.v (.slice (sg g) n c))), Ent.row (sg g) n c 104 7 (pre ++ frC (if okS x.set (readsF i) = true then { x with at_ := if i.kind = 20 ∨ holdsF i.cond (rA x i.a) (rA x i.b) = true then getL i.l m else x.at_ + 1 } else x) a)] ++ frR (if okS x.set (readsF i) = true then { x with at_ := if i.kind = 20 ∨ holdsF i.cond (rA x i.a) (rA x i.b) = true then getL i.l m else x.at_ + 1 } else x) a) ++ [Ent.row (sg gl) nf lc 87 1 (bs.map mapT), Ent.map (bs.getD x.f.toNat 0) (lmT m)])) := by
 refine lsr (R := (fun t S => t = bv (okS x.set (readsF i)) ∧ (([Ent.box s 83 (psC ps (.v (.slice (sg g) n c))), Ent.row (sg g) n c 104 7 (pre ++ frC (if okS x.set (readsF i) = true then { x with at_ := if i.kind = 20 ∨ holdsF i.cond (rA x i.a) (rA x i.b) = true then getL i.l m else x.at_ + 1 } else x) a)] ++ frR (if okS x.set (readsF i) = true then { x with at_ := if i.kind = 20 ∨ holdsF i.cond (rA x i.a) (rA x i.b) = true then getL i.l m else x.at_ + 1 } else x) a) ++ [Ent.row (sg gl) nf lc 87 1 (bs.map mapT), Ent.map (bs.getD x.f.toNat 0) (lmT m)]).Sublist S)) (fun t S' ⟨h1, h2⟩ => ⟨_, h2, h1, rfl⟩) ?_
 have hl1 := hx.r
 obtain ⟨hat0, hat1⟩ := hat
 refine ai Tryz.func37 Tryz.ntmps37 fun X w0 => ?_
 refine rs ?_
 refine bx fun b4 => ?_
 refine bx fun b5 => ?_
 refine y1 ?_
 refine nl (rs ?_)
 refine bx fun b7 => ?_
 refine y1 ?_
 refine nl (rs (y1 ?_))
 refine Y1 (Yv.makeFunc rfl evs0 rfl (evsC eV (evsC eV evs0)) rfl) ?_
 refine AWL.perm (S' := [Ent.box b7 4 [bv (true)], Ent.box b4 101 [.ep (.slice (sg g) n c) (pre).length], Ent.row (sg g) n c 104 7 (pre ++ frC x a), Ent.row a.t x.nr x.nr 4 1 (x.set.map bv)] ++ ([Ent.box s 83 (psC ps (.v (.slice (sg g) n c))), Ent.row a.r x.nr x.nr 29 1 (x.r.map zw), Ent.row a.s x.ns x.ns 29 1 (x.slot.map zw), Ent.row a.h x.ns x.ns 4 1 (x.there.map bv), Ent.box b5 90 (insCells i)] ++ [Ent.row (sg gl) nf lc 87 1 (bs.map mapT), Ent.map (bs.getD x.f.toNat 0) (lmT m)])) pmA2 ?_
 refine kc (reads49 b7 b4 g n c pre x a true i hx.t hg hr) ?_
 rintro t14 S14 ⟨rfl, rfl⟩
 refine AWL.perm (S' := ([Ent.box s 83 (psC ps (.v (.slice (sg g) n c))), Ent.row (sg g) n c 104 7 (pre ++ frC x a)] ++ frR x a) ++ ([Ent.box b4 101 [.ep (.slice (sg g) n c) (pre).length], Ent.box b5 90 (insCells i), Ent.box b7 4 [bv (okS x.set (readsF i))]] ++ [Ent.row (sg gl) nf lc 87 1 (bs.map mapT), Ent.map (bs.getD x.f.toNat 0) (lmT m)])) pmB2 ?_
 refine nl (sq (rs (y2 (nl ?_))))
 refine cq (fun h0t => ?_) fun h0f => ?_
 ·refine rs (y1 (nl ?_))
  refine rt ?_
  rw [show okS x.set (readsF i) = false by simpa using h0t]
  exact ⟨rfl, sub_mid _ _ _⟩
 have hok : okS x.set (readsF i) = true := by simpa using h0f
 refine sp (rs (y2 ?_))
 refine nl (sq (rs (y2 ?_)))
 refine nl (bk (rs (y2 (nl ?_))))
 refine cq (fun h1t => ?_) fun h1f => ?_
 ·refine AW.rseqP rfl ?_
  refine phn 16 1 ?_
  refine q5 ?_
  rw [hlab]
  refine q8 ?_
  refine Q1 (Yv.eqT (Yv.lookup1 (k := .i _ _) (i := 10) rfl mp_87 rfl eV eV rfl (lm_good _ _ rfl)) (get_lm _ _)) ?_
  refine q2 (nq ?_)
  refine op 16 ?_
  refine y1 (nl ?_)
  refine dn ?_
  refine rs (y1 (nl ?_))
  refine rt ?_
  refine ⟨by rw [hok]; rfl, ?_⟩
  rw [if_pos hok, if_pos (.inl h1t), ← fr_jump]
  exact sub_mid _ _ _
 refine rs (y2 (nl ?_))
 refine ct fun h2t => ?_
 obtain ⟨ha0, ha1⟩ := ha (by rw [h2t]; rfl)
 obtain ⟨hb0, hb1⟩ := hb (by rw [h2t]; rfl)
 refine rs (y8 (nl ?_))
 refine AW.eqS (S' := ([Ent.box s 83 (psC ps (.v (.slice (sg g) n c))), Ent.row (sg g) n c 104 7 (pre ++ frC (goF x) a)] ++ frR (goF x) a) ++ ([Ent.box b4 101 [.ep (.slice (sg g) n c) pre.length], Ent.box b5 90 (insCells i), Ent.box b7 4 [bv (okS x.set (readsF i))]] ++ [Ent.row (sg gl) nf lc 87 1 (bs.map mapT), Ent.map (bs.getD x.f.toNat 0) (lmT m)])) (by rw [show (pre ++ frC (goF x) a) = (pre ++ frC x a).set (pre.length + 1) (zi (x.at_ + 1)) from (fr_jump _).symm]; rfl) ?_
 refine sq ?_
 refine AW.rseqP rfl ?_
 refine phn 18 1 ?_
 refine q8 ?_
 refine Q1 (ix (j := i.a.toNat) (hj := fun hg => ⟨(Int.toNat_of_nonneg ha0).symm, show i.a.toNat < x.nr by omega⟩)) ?_
 refine Q1 (lw (hr := fun hg => word_at (show i.a.toNat < x.r.length by omega))) ?_
 refine q6 ?_
 refine Q1 (ix (j := i.b.toNat) (hj := fun hg => ⟨(Int.toNat_of_nonneg hb0).symm, show i.b.toNat < x.nr by omega⟩)) ?_
 refine Q1 (lw (hr := fun hg => word_at (show i.b.toNat < x.r.length by omega))) ?_
 refine nq ?_
 refine op 18 ?_
 refine kt (holds51 i.cond (rA x i.a) (rA x i.b)) ?_
 rintro t71 S71 rfl
 refine nl ?_
 refine dn ?_
 refine cq (fun h3t => ?_) fun h3f => ?_
 ·refine AW.regionP rfl ?_
  refine phn 16 1 ?_
  refine q5 ?_
  rw [hlab]
  refine q4 ?_
  refine Q1 (ix (j := x.f.toNat) (hj := fun hg => ⟨(show (goF x).f = ((x.f.toNat : Nat) : Int) from (Int.toNat_of_nonneg hf0).symm), by omega⟩)) ?_
  refine q3 ?_
  refine Q1 (Yv.eqT (Yv.lookup1 (k := .i _ _) (i := 10) rfl mp_87 rfl eV eV rfl (lm_good _ _ rfl)) (get_lm _ _)) ?_
  refine q2 (nq ?_)
  refine op 16 ?_
  refine y1 (nl ?_)
  refine dn ?_
  refine rs (y1 (nl ?_))
  refine rt ?_
  refine ⟨by rw [hok]; rfl, ?_⟩
  rw [if_pos hok, if_pos (.inr h3t), show frR { x with at_ := getL i.l m } a = frR (goF x) a from rfl, show (pre ++ frC { x with at_ := getL i.l m } a) = (pre ++ frC (goF x) a).set (pre.length + 1) (zi (getL i.l m)) from (fr_jump (pre := pre) (x := goF x) (a := a) (getL i.l m)).symm]
  exact sub_mid _ _ _
 refine sp (rs (y1 (nl ?_)))
 refine rt ?_
 refine ⟨by rw [hok]; rfl, ?_⟩
 rw [if_pos hok, if_neg (show ¬ (i.kind = 20 ∨ _) from fun e => e.elim h1f (by rw [h3f]; decide))]
 exact sub_mid _ _ _


theorem call_sub {X N C Y : St} : (X ++ N ++ C).Sublist (X ++ N ++ (C ++ Y)) := (List.sublist_append_left C Y).append_left _
theorem take_pre {pre : List T} {x : Fr} {a : FA} {k : Nat} (h : pre.length = k * 7) : (pre ++ frC x a).take (k * 7) = pre := by rw [List.take_left' h]
theorem has_a23 {k : Int} (h : k = 23 ∨ k = 25) : (hasF k).a = true := by rcases h with rfl | rfl <;> rfl
theorem has_f {k : Int} (h : k = 22 ∨ k = 24) : (hasF k).f = true := by rcases h with rfl | rfl <;> rfl
theorem callee_23 {p : Prog} {x : Fr} {i : Ins} (h : i.kind = 23 ∨ i.kind = 25) (hb : badTo p x i = false) : calleeF p x i = some (toN x i).toNat := by
 rw [calleeF, if_pos h, if_neg (by rw [hb]; decide)]
theorem callee_22 {p : Prog} {x : Fr} {i : Ins} (h : ¬ (i.kind = 23 ∨ i.kind = 25)) : calleeF p x i = some i.f.toNat := by rw [calleeF, if_neg h]
theorem wI_len {n : Nat} (h : n ≤ 1048576) : (wI (n : Int)).toNat = n := by
 have := wI_nat (n : Int)
 rw [wrap_u64] at this
 omega
theorem to_lt' {p : Prog} {x : Fr} {i : Ins} (hpf : p.funs.length ≤ 1048576) (h : ¬ wI (p.funs.length : Int) ≤ toN x i) : (toN x i).toNat < p.funs.length := by
 have h1 : toN x i < wI (p.funs.length : Int) := BitVec.not_le.1 h
 rw [BitVec.lt_def, wI_len hpf] at h1
 exact h1
theorem callee_in {p : Prog} {x : Fr} {i : Ins} {f : Nat} (hp : ProgOk p) (hpf : p.funs.length ≤ 1048576) (hf : (hasF i.kind).f = true → (0 ≤ i.f ∧ i.f.toNat < p.funs.length) ∧ (i.args.length : Int) = parF p i.f) (hkd : i.kind = 22 ∨ i.kind = 23 ∨ i.kind = 24 ∨ i.kind = 25) (h : calleeF p x i = some f) :
    f < p.funs.length ∧ ((i.args.map (rA x)).length : Int) ≤ (p.funs.getD f default).regs := by
 rw [List.length_map]
 unfold calleeF at h
 split at h
 ·split at h
  ·cases h
  rename_i hb
  cases h
  have hb' : badTo p x i = false := by simpa using hb
  unfold badTo at hb'
  simp only [Bool.or_eq_false_iff, decide_eq_false_iff_not, Bool.not_eq_false', decide_eq_true_eq] at hb'
  have h1 := to_lt' hpf hb'.1.2
  have h2 := (hp.fn _ (getD_mem h1)).par2
  exact ⟨h1, by have := hb'.2; omega⟩
 cases h
 obtain ⟨h1, h2⟩ := hf (has_f (by omega))
 have h3 := (hp.fn _ (getD_mem h1.2)).par2
 unfold parF at h2
 exact ⟨h1.2, by omega⟩
theorem fn_regs {p : Prog} {f : Nat} (hp : ProgOk p) (hf : f < p.funs.length) : 0 ≤ (p.funs.getD f default).regs ∧ (p.funs.getD f default).regs ≤ 65536 ∧ 0 ≤ (p.funs.getD f default).slots ∧ (p.funs.getD f default).slots ≤ 1048576 := by
 have h := hp.fn _ (getD_mem hf)
 have := h.par0
 have := h.par2
 exact ⟨by omega, h.regs, h.slot0, h.slot1⟩
theorem rep_bv (n : Nat) : (List.replicate n false).map bv = List.replicate n (T.v (.bool false)) := List.map_replicate
theorem callF_rows (s : Bool) (x : Fr) (a : FA) : frR (callF s x) a = [.row a.r x.nr x.nr 29 1 (x.r.map zw), .row a.s x.ns x.ns 29 1 (x.slot.map zw), .row a.t x.nr x.nr 4 1 ((if s = true then List.replicate x.nr false else x.set).map bv), .row a.h x.ns x.ns 4 1 (x.there.map bv)] := rfl
theorem to_lt {p : Prog} {x : Fr} {i : Ins} (hpf : p.funs.length ≤ 1048576) (h : ((4194304#64 ≤ rA x i.a ∧ (rA x i.a - 4194304#64) % 16#64 = 0#64) ∧ (rA x i.a - 4194304#64) / 16#64 < wI (p.funs.length : Int))) : (toN x i).toNat < p.funs.length := to_lt' hpf (BitVec.not_le.2 h.2)
theorem jumpsCall_ (s g c k : Nat) (ps : PS) (pre : List T) (x : Fr) (a : FA) (i : Ins) (hx : FrOk x) (hpre : pre.length = k * 7) (hk : k < 1048576) (hkd : i.kind = 22 ∨ i.kind = 23 ∨ i.kind = 24 ∨ i.kind = 25) (hp : ProgOk ps.prog) (hpf : ps.prog.funs.length ≤ 1048576) (ha : (hasF i.kind).a = true → 0 ≤ i.a ∧ i.a < (x.nr : Int)) (har : ∀ r ∈ i.args, 0 ≤ r ∧ r < (x.nr : Int)) (hg : i.args.length ≤ 1048576) (hf : (hasF i.kind).f = true → (0 ≤ i.f ∧ i.f.toNat < ps.prog.funs.length) ∧ (i.args.length : Int) = parF ps.prog i.f) (hat : 0 ≤ x.at_ ∧ x.at_ ≤ 4611686018427387904) :
    ACalls Tryz.prog 64 [pv s, .ep (.slice (sg g) (k + 1) c) pre.length, .agg (insCells i)] ([Ent.box s 83 (psC ps (.v (.slice (sg g) (k + 1) c))), Ent.row (sg g) (k + 1) c 104 7 (pre ++ frC x a)] ++ frR x a) (fun t S => match calleeF ps.prog x i with
    | none => t = bv false ∧ ([Ent.box s 83 (psC ps (.v (.slice (sg g) (k + 1) c))), Ent.row (sg g) (k + 1) c 104 7 (pre ++ frC x a)] ++ frR x a).Sublist S
    | some f => if i.kind = 24 ∨ i.kind = 25 then t = bv true ∧ ∃ g' c' a', ([Ent.box s 83 (psC ps (.v (.slice (some ⟨g', 0, none⟩) (k + 1) c'))), Ent.row (some ⟨g', 0, none⟩) (k + 1) c' 104 7 (pre ++ frC (openFr (ps.prog.funs.getD f default) f (argsF x i) x.d) a')] ++ frR (openFr (ps.prog.funs.getD f default) f (argsF x i) x.d) a').Sublist S
     else if 1048576 ≤ k + 1 then t = bv false ∧ ([Ent.box s 83 (psC ps (.v (.slice (sg g) (k + 1) c))), Ent.row (sg g) (k + 1) c 104 7 (pre ++ frC x a)] ++ frR x a).Sublist S
     else t = bv true ∧ ∃ g' c' a', ([Ent.box s 83 (psC ps (.v (.slice (some ⟨g', 0, none⟩) (k + 2) c'))), Ent.row (some ⟨g', 0, none⟩) (k + 2) c' 104 7 (pre ++ frC (callF ps.strict x) a ++ frC (openFr (ps.prog.funs.getD f default) f (argsF x i) i.d) a')] ++ frR (openFr (ps.prog.funs.getD f default) f (argsF x i) i.d) a' ++ frR (callF ps.strict x) a).Sublist S) := by
 have hl1 := hx.r
 have hl3 := hx.t
 obtain ⟨hat0, hat1⟩ := hat
 refine ai Tryz.func64 Tryz.ntmps64 fun X w0 => ?_
 refine rs ?_
 refine bx fun b5 => ?_
 refine y1 ?_
 refine nl (sq (rs (y3 (nl ?_))))
 refine cf fun _ => ?_
 refine sp (rs (y3 (nl ?_)))
 refine AW.mid (α := Nat) (fun f => [(0, true, pv s), (1, true, .ep (.slice (sg g) (k + 1) c) pre.length), (5, true, pv b5), (7, true, zv f)]) (fun _ => ([Ent.box s 83 (psC ps (.v (.slice (sg g) (k + 1) c))), Ent.row (sg g) (k + 1) c 104 7 (pre ++ frC x a)] ++ frR x a) ++ [Ent.box b5 90 (insCells i)]) (fun f => calleeF ps.prog x i = some f) ?_ ?_
 ·refine rs (y8 (nl ?_))
  refine cq (fun h1t => ?_) fun h1f => ?_
  ·have hk23 : i.kind = 23 ∨ i.kind = 25 := by simpa using h1t
   obtain ⟨ha0, ha1⟩ := ha (has_a23 hk23)
   refine rq (q8 ?_)
   refine Q1 (Yv.subW (b := 4194304#64) rfl eV eV) ?_
   refine q1 ?_
   refine nq (sq (rq (q8 ?_)))
   refine Q1 (Yv.lssW (b := 4194304#64) rfl eV eV) ?_
   refine q2 ?_
   refine kF (Yv.remW (b := 16#64) rfl (Eg rfl rfl id) (E rfl rfl) (by decide)) ?_
   refine kF (Yv.neqW (b := 0#64) rfl (Eg rfl rfl id) eV) ?_
   refine q3 ?_
   refine kF (Yv.quoW (b := 16#64) rfl (Eg rfl rfl id) (E rfl rfl) (by decide)) ?_
   refine q6 ?_
   refine kF (Yv.convW rfl Tryz.underlying3 kd_29 (Eg rfl rfl id)) ?_
   refine kF (Yv.geqW rfl (Eg rfl rfl id) (Eg rfl rfl id)) ?_
   refine q8 ?_
   refine kF (Yv.quoW (b := 16#64) rfl (Eg rfl rfl id) (E rfl rfl) (by decide)) ?_
   refine kF (Yv.indexSl (j := (toN x i).toNat) rfl ss_22 (B rfl) (Eg rfl rfl id) (Eg rfl rfl id) (fun hg => ⟨rfl, by rw [len_funs]; have := to_lt hpf (by simpa [rA] using hg); omega⟩)) ?_
   refine q1 ?_
   refine kF (Yv.loadRp rfl ag_3 (Eg rfl rfl id) (fun hg => fpar_at (to_lt hpf (by simpa [rA] using hg)))) ?_
   refine q5 (nq ?_)
   refine cq (fun h2t => ?_) fun h2f => ?_
   ·have hbad : badTo ps.prog x i = true := h2t
    refine rs (y1 (nl ?_))
    refine rt ?_
    rw [show calleeF ps.prog x i = none by rw [calleeF, if_pos hk23, if_pos hbad]]
    exact ⟨rfl, List.sublist_append_left _ _⟩
   have htl : ((x.r.getD i.a.toNat 0#64 - 4194304#64) / 16#64).toNat < ps.prog.funs.length := (callee_in hp hpf hf hkd (callee_23 (by omega) h2f)).1
   refine sp (rg (y1 ?_))
   refine Y1 (Yv.quoW (b := 16#64) rfl (E rfl rfl) (E rfl rfl) (by decide)) ?_
   refine Y1 (Yv.convN_i64 rfl Tryz.underlying29 kd_3 eV (fun hg => by omega)) ?_
   refine y1 (nl ?_)
   refine ⟨(toN x i).toNat, ?_, sbZ, rfl⟩
   exact callee_23 (by omega) h2f
  have hk22 : ¬ (i.kind = 23 ∨ i.kind = 25) := by simpa using h1f
  refine sp ?_
  refine ⟨i.f.toNat, ?_, (su (su (su (Sub.cons rfl (congrArg (fun x => T.v (.int .i64 x)) (Int.toNat_of_nonneg (hf (has_f (by omega))).1.1)) Sub.nil)))), rfl⟩
  exact callee_22 (by omega)
 rintro f hcal
 have hcf := callee_in hp hpf hf hkd hcal
 have hfo := fn_regs hp hcf.1
 refine rs (y1 (nl ?_))
 refine AW.rowNil 29 1 ?_
 refine sq (rs (y4 ?_))
 refine nl (bk ?_)
 refine lp3 (fun (j : Nat) (A : Option Addr) (c2 : Nat) => [(0, true, pv s), (1, true, .ep (.slice (sg g) (k + 1) c) pre.length), (5, true, pv b5), (7, true, zv f), (9, true, .v (.slice A j c2)), (91, true, .sl 1 (i.args.map zi)), (92, true, .v (.int .i64 (i.args.length : Int))), (93, true, zv j)]) (fun (j : Nat) (A : Option Addr) (c2 : Nat) => (([Ent.box s 83 (psC ps (.v (.slice (sg g) (k + 1) c))), Ent.row (sg g) (k + 1) c 104 7 (pre ++ frC x a)] ++ frR x a) ++ [Ent.box b5 90 (insCells i), Ent.row A j c2 29 1 (((i.args.take j).map (rA x)).map zw)])) (fun (j : Nat) (A : Option Addr) (c2 : Nat) => j ≤ i.args.length) (fun (j : Nat) (A : Option Addr) (c2 : Nat) => i.args.length - j) 0 none 0 ?_ ?_
 ·exact Nat.zero_le _
 intro j A c2 hinv
 refine rs (y1 ?_)
 refine nl (sq ?_)
 refine cq (fun _ => ?_) fun _ => ?_
 ·have hj : j < i.args.length := by omega
  have hjr := har _ (getD_mem (l := i.args) hj)
  refine sp (sq (bk (rs (y3 ?_))))
  refine nl (rg (y8 ?_))
  refine AWL.buildSlice1 rfl rfl (B rfl) rfl el_30 rfl (evsC (E rfl rfl) evs0) nB rfl rfl ?_
  refine AWL.appendRow (i := 7) rfl rfl (B rfl) rfl el_30 (B rfl) rfl (E rfl rfl) (SrcT.sl so_30 (B rfl) (E rfl rfl) rfl) (by unfold maxLen; omega) (by omega) (fun A106 c106 => ?_)
  refine y1 ?_
  refine nl (rg (y2 (nl ?_)))
  refine ⟨j + 1, A106, c106, by omega, by omega, sbZ, ?_⟩
  rw [take_gd (show j < i.args.length by omega), List.map_append, List.map_append]
  rfl
 obtain rfl : j = i.args.length := by omega
 refine xt (rs (y3 ?_))
 refine nl (sq (rs (y8 (nl ?_))))
 refine cq (fun h4t => ?_) fun h4f => ?_
 ·have hk24 : i.kind = 24 ∨ i.kind = 25 := by simpa using h4t
  refine rs (y5 (nl ?_))
  refine AW.rowLe 1 rfl (fun hkc => ?_)
  refine AW.regionP rfl ?_
  refine phn 14 1 ?_
  refine q11 ?_
  refine Q1 (Yv.sliceRow0 (i := 1) (m := k) rfl ss_81 rfl eV (Bound.some_ eV (fun hg => by omega)) (fun hg => by omega)) ?_
  refine q2 (nq ?_)
  refine op 14 ?_
  refine y1 (nl ?_)
  refine dn ?_
  refine AW.shrink 1 k rfl (by omega) ?_
  refine AW.eqS (S' := ([Ent.box s 83 (psC ps (.v (.slice (sg g) k c))), Ent.row (sg g) k c 104 7 (pre)] ++ frR x a) ++ [Ent.box b5 90 (insCells i), Ent.row A i.args.length c2 29 1 (((i.args.take i.args.length).map (rA x)).map zw)]) (by
   rw [take_pre hpre]
   rfl) ?_
  rw [List.take_length]
  refine AW.freeze 7 9 rfl (B rfl) rfl ?_
  refine rs (y4 ?_)
  refine kc (open31 s ps f (i.args.map (rA x)) x.d (sg g) k c pre hcf.1 hpf hfo.1 hfo.2.1 hfo.2.2.1 hfo.2.2.2 hcf.2 (by omega)) ?_
  rintro t161 S161 ⟨rfl, g2, c3, a2, rfl⟩
  refine nl (rs (y1 (nl ?_)))
  refine rt ?_
  rw [hcal]
  simp only [if_pos hk24]
  exact ⟨rfl, g2, c3, a2, List.sublist_append_left _ _⟩
 have hk24 : ¬ (i.kind = 24 ∨ i.kind = 25) := by simpa using h4f
 refine sq (rs (y6 (nl ?_)))
 refine cq (fun _ => ?_) fun _ => ?_
 ·refine rs (y1 (nl ?_))
  refine rt ?_
  rw [hcal]
  simp only [if_neg hk24]
  rw [if_pos (by omega)]
  exact ⟨rfl, List.sublist_append_left _ _⟩
 refine sp (rs (y8 (nl ?_)))
 refine AW.eqS (S' := ([Ent.box s 83 (psC ps (.v (.slice (sg g) (k + 1) c))), Ent.row (sg g) (k + 1) c 104 7 (pre ++ frC (goF x) a)] ++ frR x a) ++ [Ent.box b5 90 (insCells i), Ent.row A i.args.length c2 29 1 (((i.args.take i.args.length).map (rA x)).map zw)]) (by rw [show (pre ++ frC (goF x) a) = (pre ++ frC x a).set (pre.length + 1) (zi (x.at_ + 1)) from (fr_jump _).symm]; rfl) ?_
 refine rs (y4 (nl ?_))
 refine cq (fun h6t => ?_) fun h6f => ?_
 ·refine rg (y4 ?_)
  refine AWL.clearRow (i := 4) rfl rfl rfl el_102 rfl (E rfl rfl) (nl ?_)
  refine AW.eqS (S' := ([Ent.box s 83 (psC ps (.v (.slice (sg g) (k + 1) c))), Ent.row (sg g) (k + 1) c 104 7 (pre ++ frC (callF ps.strict x) a)] ++ frR (callF ps.strict x) a) ++ [Ent.box b5 90 (insCells i), Ent.row A i.args.length c2 29 1 (((i.args.take i.args.length).map (rA x)).map zw)]) (by
   rw [callF_rows, if_pos h6t, rep_bv]
   rfl) ?_
  rw [List.take_length]
  refine AW.freeze 7 9 rfl (B rfl) rfl ?_
  refine rs (y4 ?_)
  refine kc (open31 s ps f (i.args.map (rA x)) i.d (sg g) (k + 1) c (pre ++ frC (callF ps.strict x) a) hcf.1 hpf hfo.1 hfo.2.1 hfo.2.2.1 hfo.2.2.2 hcf.2 (by omega)) ?_
  rintro t161 S161 ⟨rfl, g2, c3, a2, rfl⟩
  refine nl (rs (y1 (nl ?_)))
  refine rt ?_
  rw [hcal]
  simp only [if_neg hk24]
  rw [if_neg (by omega)]
  refine ⟨rfl, g2, c3, a2, ?_⟩
  exact call_sub
 refine AW.eqS (S' := ([Ent.box s 83 (psC ps (.v (.slice (sg g) (k + 1) c))), Ent.row (sg g) (k + 1) c 104 7 (pre ++ frC (callF ps.strict x) a)] ++ frR (callF ps.strict x) a) ++ [Ent.box b5 90 (insCells i), Ent.row A i.args.length c2 29 1 (((i.args.take i.args.length).map (rA x)).map zw)]) (by
  rw [callF_rows, if_neg (by rw [h6f]; decide)]
  rfl) ?_
 rw [List.take_length]
 refine AW.freeze 7 9 rfl (B rfl) rfl ?_
 refine sp (rs (y4 ?_))
 refine kc (open31 s ps f (i.args.map (rA x)) i.d (sg g) (k + 1) c (pre ++ frC (callF ps.strict x) a) hcf.1 hpf hfo.1 hfo.2.1 hfo.2.2.1 hfo.2.2.2 hcf.2 (by omega)) ?_
 rintro t161 S161 ⟨rfl, g2, c3, a2, rfl⟩
 refine nl (rs (y1 (nl ?_)))
 refine rt ?_
 rw [hcal]
 simp only [if_neg hk24]
 rw [if_neg (by omega)]
 refine ⟨rfl, g2, c3, a2, ?_⟩
 exact call_sub


def JQ (s g c k : Nat) (ps : PS) (pre : List T) (x : Fr) (a : FA) (i : Ins) (b : Bool) (S : St) : Prop :=
 match calleeF ps.prog x i with
 | none => b = false ∧ S = [Ent.box s 83 (psC ps (.v (.slice (sg g) (k + 1) c))), Ent.row (sg g) (k + 1) c 104 7 (pre ++ frC x a)] ++ frR x a
 | some f => if i.kind = 24 ∨ i.kind = 25 then b = true ∧ ∃ g' c' a', S = [Ent.box s 83 (psC ps (.v (.slice (some ⟨g', 0, none⟩) (k + 1) c'))), Ent.row (some ⟨g', 0, none⟩) (k + 1) c' 104 7 (pre ++ frC (openFr (ps.prog.funs.getD f default) f (argsF x i) x.d) a')] ++ frR (openFr (ps.prog.funs.getD f default) f (argsF x i) x.d) a'
  else if 1048576 ≤ k + 1 then b = false ∧ S = [Ent.box s 83 (psC ps (.v (.slice (sg g) (k + 1) c))), Ent.row (sg g) (k + 1) c 104 7 (pre ++ frC x a)] ++ frR x a
  else b = true ∧ ∃ g' c' a', S = [Ent.box s 83 (psC ps (.v (.slice (some ⟨g', 0, none⟩) (k + 2) c'))), Ent.row (some ⟨g', 0, none⟩) (k + 2) c' 104 7 (pre ++ frC (callF ps.strict x) a ++ frC (openFr (ps.prog.funs.getD f default) f (argsF x i) i.d) a')] ++ frR (openFr (ps.prog.funs.getD f default) f (argsF x i) i.d) a' ++ frR (callF ps.strict x) a
theorem jumpsCall (s g c k : Nat) (ps : PS) (pre : List T) (x : Fr) (a : FA) (i : Ins) (hx : FrOk x) (hpre : pre.length = k * 7) (hk : k < 1048576) (hkd : i.kind = 22 ∨ i.kind = 23 ∨ i.kind = 24 ∨ i.kind = 25) (hp : ProgOk ps.prog) (hpf : ps.prog.funs.length ≤ 1048576) (ha : (hasF i.kind).a = true → 0 ≤ i.a ∧ i.a < (x.nr : Int)) (har : ∀ r ∈ i.args, 0 ≤ r ∧ r < (x.nr : Int)) (hg : i.args.length ≤ 1048576) (hf : (hasF i.kind).f = true → (0 ≤ i.f ∧ i.f.toNat < ps.prog.funs.length) ∧ (i.args.length : Int) = parF ps.prog i.f) (hat : 0 ≤ x.at_ ∧ x.at_ ≤ 4611686018427387904) : ACalls Tryz.prog 64 [pv s, .ep (.slice (sg g) (k + 1) c) pre.length, .agg (insCells i)] ([Ent.box s 83 (psC ps (.v (.slice (sg g) (k + 1) c))), Ent.row (sg g) (k + 1) c 104 7 (pre ++ frC x a)] ++ frR x a) (fun t S => ∃ b, t = bv b ∧ JQ s g c k ps pre x a i b S) :=
 (jumpsCall_ s g c k ps pre x a i hx hpre hk hkd hp hpf ha har hg hf hat).less fun t S' h => by
  unfold JQ
  cases hc : calleeF ps.prog x i with
  | none =>
   rw [hc] at h
   exact ⟨_, h.2, false, h.1, rfl, rfl⟩
  | some f =>
   rw [hc] at h
   dsimp only at h ⊢
   split at h
   ·rename_i h24
    simp only [if_pos h24]
    obtain ⟨h1, g', c', a', h2⟩ := h
    exact ⟨_, h2, true, h1, rfl, g', c', a', rfl⟩
   ·rename_i h24
    simp only [if_neg h24]
    split at h
    ·rename_i hm
     simp only [if_pos hm]
     exact ⟨_, h.2, false, h.1, rfl, rfl⟩
    ·rename_i hm
     simp only [if_neg hm]
     obtain ⟨h1, g', c', a', h2⟩ := h
     exact ⟨_, h2, true, h1, rfl, g', c', a', rfl⟩
theorem do32C_ (s g c k : Nat) (ps : PS) (pre : List T) (x : Fr) (a : FA) (i : Ins) (hx : FrOk x) (hpre : pre.length = k * 7) (hk : k < 1048576) (hkd : i.kind = 22 ∨ i.kind = 23 ∨ i.kind = 24 ∨ i.kind = 25) (hp : ProgOk ps.prog) (hpf : ps.prog.funs.length ≤ 1048576) (ha : (hasF i.kind).a = true → 0 ≤ i.a ∧ i.a < (x.nr : Int)) (har : ∀ r ∈ i.args, 0 ≤ r ∧ r < (x.nr : Int)) (hg : i.args.length ≤ 1048576) (hf : (hasF i.kind).f = true → (0 ≤ i.f ∧ i.f.toNat < ps.prog.funs.length) ∧ (i.args.length : Int) = parF ps.prog i.f) (hr : ∀ r ∈ readsF i, 0 ≤ r ∧ r < (x.nr : Int)) (hat : 0 ≤ x.at_ ∧ x.at_ ≤ 4611686018427387904) :
    ACalls Tryz.prog 37 [pv s, .ep (.slice (sg g) (k + 1) c) (pre).length, .agg (insCells i)] (([Ent.box s 83 (psC ps (.v (.slice (sg g) (k + 1) c))), Ent.row (sg g) (k + 1) c 104 7 (pre ++ frC x a)] ++ frR x a) ++ ([] : St)) (fun t S => (okS x.set (readsF i) = false ∧ t = bv false ∧ ([Ent.box s 83 (psC ps (.v (.slice (sg g) (k + 1) c))), Ent.row (sg g) (k + 1) c 104 7 (pre ++ frC x a)] ++ frR x a).Sublist S) ∨ (okS x.set (readsF i) = true ∧ ∃ b S', t = bv b ∧ JQ s g c k ps pre x a i b S' ∧ S'.Sublist S)) := by
 refine ai Tryz.func37 Tryz.ntmps37 fun X w0 => ?_
 refine rs ?_
 refine bx fun b4 => ?_
 refine bx fun b5 => ?_
 refine y1 ?_
 refine nl (rs ?_)
 refine bx fun b7 => ?_
 refine y1 ?_
 refine nl (rs (y1 ?_))
 refine Y1 (Yv.makeFunc rfl evs0 rfl (evsC eV (evsC eV evs0)) rfl) ?_
 refine AWL.perm (S' := [Ent.box b7 4 [bv (true)], Ent.box b4 101 [.ep (.slice (sg g) (k + 1) c) (pre).length], Ent.row (sg g) (k + 1) c 104 7 (pre ++ frC x a), Ent.row a.t x.nr x.nr 4 1 (x.set.map bv)] ++ ([Ent.box s 83 (psC ps (.v (.slice (sg g) (k + 1) c))), Ent.row a.r x.nr x.nr 29 1 (x.r.map zw), Ent.row a.s x.ns x.ns 29 1 (x.slot.map zw), Ent.row a.h x.ns x.ns 4 1 (x.there.map bv), Ent.box b5 90 (insCells i)] ++ ([] : St))) pmA0 ?_
 refine kc (reads49 b7 b4 g (k + 1) c pre x a true i hx.t hg hr) ?_
 rintro t14 S14 ⟨rfl, rfl⟩
 refine AWL.perm (S' := ([Ent.box s 83 (psC ps (.v (.slice (sg g) (k + 1) c))), Ent.row (sg g) (k + 1) c 104 7 (pre ++ frC x a)] ++ frR x a) ++ ([Ent.box b4 101 [.ep (.slice (sg g) (k + 1) c) (pre).length], Ent.box b5 90 (insCells i), Ent.box b7 4 [bv (okS x.set (readsF i))]] ++ ([] : St))) pmB0 ?_
 refine nl (sq (rs (y2 (nl ?_))))
 refine cq (fun h0t => ?_) fun h0f => ?_
 ·refine rs (y1 (nl ?_))
  refine rt ?_
  exact .inl ⟨by simpa using h0t, rfl, List.sublist_append_left _ _⟩
 have hok : okS x.set (readsF i) = true := by simpa using h0f
 refine sp (rs (y2 ?_))
 refine nl (sq (rs (y2 ?_)))
 refine nl (bk (rs (y2 (nl ?_))))
 refine cf fun _ => ?_
 refine rs (y2 (nl ?_))
 refine cf fun _ => ?_
 refine sq (rs (y2 (nl ?_)))
 refine cq (fun _ => ?_) fun _ => ?_
 ·refine sp ?_
  refine ct fun _ => ?_
  refine rs (y3 ?_)
  refine kc (jumpsCall s g c k ps pre x a i hx hpre hk hkd hp hpf ha har hg hf hat) ?_
  rintro t97 S97 ⟨b, rfl, hJ⟩
  refine y1 (nl ?_)
  refine rt ?_
  exact .inr ⟨hok, b, _, rfl, hJ, List.sublist_append_left _ _⟩
 refine rs (y2 (nl ?_))
 refine cq (fun _ => ?_) fun _ => ?_
 ·refine sp ?_
  refine ct fun _ => ?_
  refine rs (y3 ?_)
  refine kc (jumpsCall s g c k ps pre x a i hx hpre hk hkd hp hpf ha har hg hf hat) ?_
  rintro t97 S97 ⟨b, rfl, hJ⟩
  refine y1 (nl ?_)
  refine rt ?_
  exact .inr ⟨hok, b, _, rfl, hJ, List.sublist_append_left _ _⟩
 refine rs (y2 (nl ?_))
 refine cq (fun _ => ?_) fun _ => ?_
 ·refine sp ?_
  refine ct fun _ => ?_
  refine rs (y3 ?_)
  refine kc (jumpsCall s g c k ps pre x a i hx hpre hk hkd hp hpf ha har hg hf hat) ?_
  rintro t97 S97 ⟨b, rfl, hJ⟩
  refine y1 (nl ?_)
  refine rt ?_
  exact .inr ⟨hok, b, _, rfl, hJ, List.sublist_append_left _ _⟩
 refine rs (y2 (nl ?_))
 refine cq (fun _ => ?_) fun _ => ?_
 ·refine sp ?_
  refine ct fun _ => ?_
  refine rs (y3 ?_)
  refine kc (jumpsCall s g c k ps pre x a i hx hpre hk hkd hp hpf ha har hg hf hat) ?_
  rintro t97 S97 ⟨b, rfl, hJ⟩
  refine y1 (nl ?_)
  refine rt ?_
  exact .inr ⟨hok, b, _, rfl, hJ, List.sublist_append_left _ _⟩
 refine rg (y2 (nl ?_))
 refine cq (fun _ => ?_) fun _ => ?_
 ·exfalso; omega
 exfalso; omega

theorem do32C (s g c k : Nat) (ps : PS) (pre : List T) (x : Fr) (a : FA) (i : Ins) (hx : FrOk x) (hpre : pre.length = k * 7) (hk : k < 1048576) (hkd : i.kind = 22 ∨ i.kind = 23 ∨ i.kind = 24 ∨ i.kind = 25) (hp : ProgOk ps.prog) (hpf : ps.prog.funs.length ≤ 1048576) (ha : (hasF i.kind).a = true → 0 ≤ i.a ∧ i.a < (x.nr : Int)) (har : ∀ r ∈ i.args, 0 ≤ r ∧ r < (x.nr : Int)) (hg : i.args.length ≤ 1048576) (hf : (hasF i.kind).f = true → (0 ≤ i.f ∧ i.f.toNat < ps.prog.funs.length) ∧ (i.args.length : Int) = parF ps.prog i.f) (hr : ∀ r ∈ readsF i, 0 ≤ r ∧ r < (x.nr : Int)) (hat : 0 ≤ x.at_ ∧ x.at_ ≤ 4611686018427387904) : ACalls Tryz.prog 37 [pv s, .ep (.slice (sg g) (k + 1) c) pre.length, .agg (insCells i)] ([Ent.box s 83 (psC ps (.v (.slice (sg g) (k + 1) c))), Ent.row (sg g) (k + 1) c 104 7 (pre ++ frC x a)] ++ frR x a) (fun t S => (okS x.set (readsF i) = false ∧ t = bv false ∧ S = [Ent.box s 83 (psC ps (.v (.slice (sg g) (k + 1) c))), Ent.row (sg g) (k + 1) c 104 7 (pre ++ frC x a)] ++ frR x a) ∨ (okS x.set (readsF i) = true ∧ ∃ b, t = bv b ∧ JQ s g c k ps pre x a i b S)) := by
 have h := do32C_ s g c k ps pre x a i hx hpre hk hkd hp hpf ha har hg hf hr hat
 rw [List.append_nil] at h
 exact h.less fun t S' h => by
  rcases h with ⟨h1, h2, h3⟩ | ⟨h1, b, S2, h2, h3, h4⟩
  ·exact ⟨_, h3, .inl ⟨h1, h2, rfl⟩⟩
  ·exact ⟨S2, h4, .inr ⟨h1, b, h2, h3⟩⟩
theorem pmA4 {α : Type} {a0 a1 a2 a3 a4 a5 a6 a7 a8 a9 a10 a11 a12 : α} {Z : List α} : (a12 :: a10 :: a1 :: a4 :: a0 :: a2 :: a3 :: a5 :: a11 :: a6 :: a7 :: a8 :: a9 :: Z).Perm (a0 :: a1 :: a2 :: a3 :: a4 :: a5 :: a6 :: a7 :: a8 :: a9 :: a10 :: a11 :: a12 :: Z) := pk
theorem pmB4 {α : Type} {a0 a1 a2 a3 a4 a5 a6 a7 a8 a9 a10 a11 a12 : α} {Z : List α} : (a4 :: a2 :: a5 :: a6 :: a3 :: a7 :: a1 :: a8 :: a0 :: a9 :: a10 :: a11 :: a12 :: Z).Perm (a0 :: a1 :: a2 :: a3 :: a4 :: a5 :: a6 :: a7 :: a8 :: a9 :: a10 :: a11 :: a12 :: Z) := pk
theorem pmC {α : Type} {a0 a1 a2 a3 a4 a5 a6 a7 a8 a9 a10 a11 a12 : α} {Z : List α} : (a0 :: a1 :: a9 :: a10 :: a11 :: a12 :: a2 :: a3 :: a4 :: a5 :: a6 :: a7 :: a8 :: Z).Perm (a0 :: a1 :: a2 :: a3 :: a4 :: a5 :: a6 :: a7 :: a8 :: a9 :: a10 :: a11 :: a12 :: Z) := pk
theorem do32RM (s g c k : Nat) (ps : PS) (pre : List T) (y : Fr) (b : FA) (x : Fr) (a : FA) (i : Ins) (hpre : pre.length = k * 7) (hk7 : k ≤ 1048576) (hy : FrOk y) (hd : 0 ≤ x.d ∧ x.d < (y.nr : Int)) (hx : FrOk x) (hk : i.kind = 26) (ha : 0 ≤ i.a ∧ i.a < (x.nr : Int)) (hr : ∀ r ∈ readsF i, 0 ≤ r ∧ r < (x.nr : Int)) (hg : i.args.length ≤ 1048576) :
    ACalls Tryz.prog 37 [pv s, .ep (.slice (sg g) (k + 2) c) (pre ++ frC y b).length, .agg (insCells i)] (([Ent.box s 83 (psC ps (.v (.slice (sg g) (k + 2) c))), Ent.row (sg g) (k + 2) c 104 7 ((pre ++ frC y b) ++ frC x a)] ++ frR x a) ++ frR y b) (fun t S => (okS x.set (readsF i) = false ∧ t = bv false ∧ S = ([Ent.box s 83 (psC ps (.v (.slice (sg g) (k + 2) c))), Ent.row (sg g) (k + 2) c 104 7 ((pre ++ frC y b) ++ frC x a)] ++ frR x a) ++ frR y b) ∨ (okS x.set (readsF i) = true ∧ t = bv true ∧ S = [Ent.box s 83 (psC ps (.v (.slice (sg g) (k + 1) c))), Ent.row (sg g) (k + 1) c 104 7 (pre ++ frC y b)] ++ frR (setD y x.d (rA x i.a)) b)) := by
 refine lsr (R := (fun t S => (okS x.set (readsF i) = false ∧ t = bv false ∧ (([Ent.box s 83 (psC ps (.v (.slice (sg g) (k + 2) c))), Ent.row (sg g) (k + 2) c 104 7 ((pre ++ frC y b) ++ frC x a)] ++ frR x a) ++ frR y b).Sublist S) ∨ (okS x.set (readsF i) = true ∧ t = bv true ∧ ([Ent.box s 83 (psC ps (.v (.slice (sg g) (k + 1) c))), Ent.row (sg g) (k + 1) c 104 7 (pre ++ frC y b)] ++ frR (setD y x.d (rA x i.a)) b).Sublist S))) (fun t S' h => by
  rcases h with ⟨h1, h2, h3⟩ | ⟨h1, h2, h3⟩
  ·exact ⟨_, h3, .inl ⟨h1, h2, rfl⟩⟩
  ·exact ⟨_, h3, .inr ⟨h1, h2, rfl⟩⟩) ?_
 refine ai Tryz.func37 Tryz.ntmps37 fun X w0 => ?_
 refine rs ?_
 refine bx fun b4 => ?_
 refine bx fun b5 => ?_
 refine y1 ?_
 refine nl (rs ?_)
 refine bx fun b7 => ?_
 refine y1 ?_
 refine nl (rs ?_)
 refine Y1 (Yv.loadBoxA rfl ag_90 (i := 11) rfl eV rfl rfl) ?_
 refine Y1 (Yv.makeFunc rfl evs0 rfl (evsC eV (evsC eV evs0)) rfl) ?_
 refine AWL.perm (S' := [Ent.box b7 4 [bv (true)], Ent.box b4 101 [.ep (.slice (sg g) (k + 2) c) ((pre ++ frC y b)).length], Ent.row (sg g) (k + 2) c 104 7 ((pre ++ frC y b) ++ frC x a), Ent.row a.t x.nr x.nr 4 1 (x.set.map bv)] ++ ([Ent.box s 83 (psC ps (.v (.slice (sg g) (k + 2) c))), Ent.row a.r x.nr x.nr 29 1 (x.r.map zw), Ent.row a.s x.ns x.ns 29 1 (x.slot.map zw), Ent.row a.h x.ns x.ns 4 1 (x.there.map bv), Ent.box b5 90 (insCells i)] ++ frR y b)) pmA4 ?_
 refine kc (reads49 b7 b4 g (k + 2) c (pre ++ frC y b) x a true i hx.t hg hr) ?_
 rintro t14 S14 ⟨rfl, rfl⟩
 refine AWL.perm (S' := ([Ent.box s 83 (psC ps (.v (.slice (sg g) (k + 2) c))), Ent.row (sg g) (k + 2) c 104 7 ((pre ++ frC y b) ++ frC x a)] ++ frR x a) ++ ([Ent.box b4 101 [.ep (.slice (sg g) (k + 2) c) ((pre ++ frC y b)).length], Ent.box b5 90 (insCells i), Ent.box b7 4 [bv (okS x.set (readsF i))]] ++ frR y b)) pmB4 ?_
 refine nl (sq (rs (y2 (nl ?_))))
 refine cq (fun h0t => ?_) fun h0f => ?_
 ·refine rs (y1 (nl ?_))
  refine rt ?_
  exact .inl ⟨by simpa using h0t, rfl, sub_mid _ _ _⟩
 have hok : okS x.set (readsF i) = true := by simpa using h0f
 refine sp (rs (y2 ?_))
 refine nl (sq (rs (y2 ?_)))
 refine nl (bk (rs (y2 (nl ?_))))
 refine cf fun _ => ?_
 refine rs (y2 (nl ?_))
 refine cf fun _ => ?_
 refine sq (rs (y2 (nl ?_)))
 refine cf fun _ => ?_
 refine rs (y2 (nl ?_))
 refine cf fun _ => ?_
 refine rs (y2 (nl ?_))
 refine cf fun _ => ?_
 refine rs (y2 (nl ?_))
 refine cf fun _ => ?_
 refine rg (y2 (nl ?_))
 refine ct fun _ => ?_
 refine rs (y3 ?_)
 refine AWL.perm (S' := (([Ent.box s 83 (psC ps (.v (.slice (sg g) (k + 2) c))), Ent.row (sg g) (k + 2) c 104 7 (pre ++ frC y b ++ frC x a)] ++ frR y b) ++ frR x a) ++ [Ent.box b4 101 [.ep (.slice (sg g) (k + 2) c) (pre ++ frC y b).length], Ent.box b5 90 (insCells i), Ent.box b7 4 [bv (okS x.set (readsF i))]]) pmC ?_
 refine kc (jumpsRetMore s g c k ps pre y b x a i hpre hk7 hy hd hx hk ha) ?_
 rintro t97 S97 ⟨rfl, rfl⟩
 refine y1 (nl ?_)
 refine rt ?_
 exact .inr ⟨hok, rfl, (List.sublist_append_left _ _).trans (List.sublist_append_left _ _)⟩


theorem pmAv {α : Type} {a0 a1 a2 a3 a4 a5 a6 a7 a8 : α} {Z : List α} : (a0 :: a2 :: a4 :: a7 :: a3 :: a5 :: a6 :: a8 :: a1 :: Z).Perm (a0 :: a1 :: a2 :: a3 :: a4 :: a5 :: a6 :: a7 :: a8 :: Z) := pk
theorem toMem {X : Ent} {W E : St} : ((X :: E) ++ W).Perm (X :: (W ++ E)) := (List.perm_append_comm (l₁ := E) (l₂ := W)).cons X
theorem toTen {A B C : St} {x : Ent} : (A ++ (B ++ (x :: C))).Perm ((A ++ (B ++ C)) ++ [x]) := by
 rw [List.append_assoc, List.append_assoc]
 exact ((List.perm_append_singleton x C).symm.append_left B).append_left A
theorem sub_mid2 {α : Type} (a b c : List α) (x : α) : (a ++ c).Sublist (a ++ (b ++ (x :: c))) := ((List.sublist_cons_self x c).trans (List.sublist_append_right b _)).append_left a
theorem do32St (s g n c pg : Nat) (ps : PS) (pre : List T) (x : Fr) (a : FA) (i : Ins) (l : List Pg) (hx : FrOk x) (hpg : ps.pages = mapT pg) (hl : PgOk l) (hd : ps.prog.data.length ≤ 1048576) (hz0 : 0 ≤ ps.prog.zero) (hz1 : ps.prog.zero ≤ 268435456) (hk : i.kind = 18) (ha : (hasF i.kind).a = true → 0 ≤ i.a ∧ i.a < (x.nr : Int)) (hb : (hasF i.kind).b = true → 0 ≤ i.b ∧ i.b < (x.nr : Int)) (hdr : (hasF i.kind).d = true → 0 ≤ i.d ∧ i.d < (x.nr : Int)) (hr : ∀ r ∈ readsF i, 0 ≤ r ∧ r < (x.nr : Int)) (hg : i.args.length ≤ 1048576) (hat : 0 ≤ x.at_ ∧ x.at_ ≤ 4611686018427387904) :
    ACalls Tryz.prog 37 [pv s, .ep (.slice (sg g) n c) pre.length, .agg (insCells i)] (([Ent.box s 83 (psC ps (.v (.slice (sg g) n c))), Ent.row (sg g) n c 104 7 (pre ++ frC x a)] ++ frR x a) ++ (memE 129 pg l)) (fun t S => t = bv (okS x.set (readsF i) && (sizeOk i.size && thereF (psData ps.prog) ps.heap (adF x i) (wI i.size))) ∧ ∃ l', S = ([Ent.box s 83 (psC ps (.v (.slice (sg g) n c))), Ent.row (sg g) n c 104 7 (pre ++ frC (if (okS x.set (readsF i) && (sizeOk i.size && thereF (psData ps.prog) ps.heap (adF x i) (wI i.size))) = true then goF x else x) a)] ++ frR (if (okS x.set (readsF i) && (sizeOk i.size && thereF (psData ps.prog) ps.heap (adF x i) (wI i.size))) = true then goF x else x) a) ++ memE 129 pg l' ∧ PgOk l' ∧ getM l' = if (okS x.set (readsF i) && (sizeOk i.size && thereF (psData ps.prog) ps.heap (adF x i) (wI i.size))) = true then putsF (getM l) (adF x i) (rA x i.b) i.size.toNat else getM l) := by
 refine lsr (R := (fun t S => t = bv (okS x.set (readsF i) && (sizeOk i.size && thereF (psData ps.prog) ps.heap (adF x i) (wI i.size))) ∧ ∃ l', (([Ent.box s 83 (psC ps (.v (.slice (sg g) n c))), Ent.row (sg g) n c 104 7 (pre ++ frC (if (okS x.set (readsF i) && (sizeOk i.size && thereF (psData ps.prog) ps.heap (adF x i) (wI i.size))) = true then goF x else x) a)] ++ frR (if (okS x.set (readsF i) && (sizeOk i.size && thereF (psData ps.prog) ps.heap (adF x i) (wI i.size))) = true then goF x else x) a) ++ memE 129 pg l').Sublist S ∧ PgOk l' ∧ getM l' = if (okS x.set (readsF i) && (sizeOk i.size && thereF (psData ps.prog) ps.heap (adF x i) (wI i.size))) = true then putsF (getM l) (adF x i) (rA x i.b) i.size.toNat else getM l)) (fun t S' ⟨h1, l', h2, h3⟩ => ⟨_, h2, h1, l', rfl, h3⟩) ?_
 have hl1 := hx.r
 obtain ⟨hat0, hat1⟩ := hat
 refine ai Tryz.func37 Tryz.ntmps37 fun X w0 => ?_
 refine rs ?_
 refine bg fun b4 => ?_
 refine bg fun b5 => ?_
 refine y1 ?_
 refine nl (rs ?_)
 refine bg fun b7 => ?_
 refine y1 ?_
 refine nl (rs (y1 ?_))
 refine Y1 (Yv.makeFunc rfl evs0 rfl (evsC eV (evsC eV evs0)) rfl) ?_
 refine AWL.perm (S' := [Ent.box b7 4 [bv (true)], Ent.box b4 101 [.ep (.slice (sg g) n c) pre.length], Ent.row (sg g) n c 104 7 (pre ++ frC x a), Ent.row a.t x.nr x.nr 4 1 (x.set.map bv)] ++ ([Ent.box s 83 (psC ps (.v (.slice (sg g) n c))), Ent.row a.r x.nr x.nr 29 1 (x.r.map zw), Ent.row a.s x.ns x.ns 29 1 (x.slot.map zw), Ent.row a.h x.ns x.ns 4 1 (x.there.map bv), Ent.box b5 90 (insCells i)] ++ (memE 129 pg l))) pmAv ?_
 refine kc (reads49 b7 b4 g n c pre x a true i hx.t hg hr) ?_
 rintro t14 S14 ⟨rfl, rfl⟩
 refine AWL.perm (S' := ([Ent.box s 83 (psC ps (.v (.slice (sg g) n c))), Ent.row (sg g) n c 104 7 (pre ++ frC x a)] ++ frR x a) ++ ([Ent.box b4 101 [.ep (.slice (sg g) n c) pre.length], Ent.box b5 90 (insCells i), Ent.box b7 4 [bv (okS x.set (readsF i))]] ++ (memE 129 pg l))) pmB0 ?_
 refine nl (sq (rs (y2 (nl ?_))))
 refine cq (fun h0t => ?_) fun h0f => ?_
 ·refine rs (y1 (nl ?_))
  refine rt ?_
  rw [show okS x.set (readsF i) = false by simpa using h0t]
  exact ⟨rfl, l, sub_mid _ _ _, hl, rfl⟩
 have hok : okS x.set (readsF i) = true := by simpa using h0f
 refine sp (rs (y2 ?_))
 refine nl (sq (rs (y2 ?_)))
 refine nl (bk (rs (y2 (nl ?_))))
 refine cf fun _ => ?_
 refine rs (y2 (nl ?_))
 refine cf fun _ => ?_
 refine sq (rs (y2 (nl ?_)))
 refine cf fun _ => ?_
 refine rs (y2 (nl ?_))
 refine cf fun _ => ?_
 refine rs (y2 (nl ?_))
 refine cf fun _ => ?_
 refine rs (y2 (nl ?_))
 refine cf fun _ => ?_
 refine rg (y2 (nl ?_))
 refine cf fun _ => ?_
 refine rs (y2 (nl ?_))
 refine ct fun _ => ?_
 obtain ⟨ha0, ha1⟩ := ha (by rw [hk]; rfl)
 obtain ⟨hb0, hb1⟩ := hb (by rw [hk]; rfl)
 refine AW.regionP rfl ?_
 refine phn 23 2 ?_
 refine q7 ?_
 refine Q1 (ix (j := i.a.toNat) (hj := fun hg => ⟨(Int.toNat_of_nonneg ha0).symm, show i.a.toNat < x.nr by omega⟩)) ?_
 refine q3 ?_
 refine Q1 (Yv.convW rfl Tryz.underlying2 kd_29 eV) ?_
 refine Q1 (Yv.addW rfl eV eV) ?_
 refine q8 ?_
 refine Q1 (ix (j := i.b.toNat) (hj := fun hg => ⟨(Int.toNat_of_nonneg hb0).symm, show i.b.toNat < x.nr by omega⟩)) ?_
 refine q1 (nq ?_)
 refine op 23 ?_
 refine AWL.perm (S' := (Ent.box s 83 (psC ps (.v (.slice (sg g) n c))) :: memE 129 pg l) ++ ([Ent.row (sg g) n c 104 7 (pre ++ frC x a)] ++ frR x a ++ [Ent.box b4 101 [.ep (.slice (sg g) n c) pre.length], Ent.box b5 90 (insCells i), Ent.box b7 4 [bv (okS x.set (readsF i))]])) (toMem (X := Ent.box s 83 (psC ps (.v (.slice (sg g) n c)))) (W := [Ent.row (sg g) n c 104 7 (pre ++ frC x a)] ++ frR x a ++ [Ent.box b4 101 [.ep (.slice (sg g) n c) pre.length], Ent.box b5 90 (insCells i), Ent.box b7 4 [bv (okS x.set (readsF i))]])) ?_
 refine kc (Store53 s pg ps _ l hpg hl hd hz0 hz1 (adF x i) i.size (rA x i.b)) ?_
 rintro t123 S123 ⟨rfl, l2, rfl, hl2, hm2⟩
 refine AWL.perm (S' := ([Ent.box s 83 (psC ps (.v (.slice (sg g) n c))), Ent.row (sg g) n c 104 7 (pre ++ frC x a)] ++ frR x a) ++ ([Ent.box b4 101 [.ep (.slice (sg g) n c) pre.length], Ent.box b5 90 (insCells i), Ent.box b7 4 [bv (okS x.set (readsF i))]] ++ memE 129 pg l2)) (toMem (X := Ent.box s 83 (psC ps (.v (.slice (sg g) n c)))) (W := [Ent.row (sg g) n c 104 7 (pre ++ frC x a)] ++ frR x a ++ [Ent.box b4 101 [.ep (.slice (sg g) n c) pre.length], Ent.box b5 90 (insCells i), Ent.box b7 4 [bv (okS x.set (readsF i))]])).symm (nl ?_)
 refine op 24 ?_
 refine y1 (nl ?_)
 refine dn ?_
 refine sq (rs (y2 (nl ?_)))
 refine cq (fun h9t => ?_) fun h9f => ?_
 ·have hmo : (sizeOk i.size && thereF (psData ps.prog) ps.heap (adF x i) (wI i.size)) = false := by rw [← Bool.not_eq_true']; exact h9t
  refine rs (y1 (nl ?_))
  refine rt ?_
  rw [hok, hmo]
  rw [hmo] at hm2
  exact ⟨rfl, l2, sub_mid _ _ _, hl2, hm2⟩
 have hmo : (sizeOk i.size && thereF (psData ps.prog) ps.heap (adF x i) (wI i.size)) = true := by rw [← Bool.not_eq_false']; exact h9f
 refine sp (sq (rs (y2 ?_)))
 refine kt (fields57 i.kind) ?_
 rintro t188 S188 rfl
 refine y3 ?_
 refine bx fun b10 => ?_
 refine AWL.perm (S' := ([Ent.box s 83 (psC ps (.v (.slice (sg g) n c))), Ent.row (sg g) n c 104 7 (pre ++ frC x a)] ++ frR x a) ++ ([Ent.box b4 101 [.ep (.slice (sg g) n c) pre.length], Ent.box b5 90 (insCells i), Ent.box b7 4 [bv (okS x.set (readsF i))]] ++ (Ent.box b10 143 (List.map T.v [Value.bool false, Value.bool false, Value.bool false, Value.bool false, Value.bool false, Value.bool false, Value.bool false, Value.bool false]) :: memE 129 pg l2))) toTen ?_
 refine y2 ?_
 refine nl (rs (y2 (nl ?_)))
 refine cq (fun h10t => ?_) fun _ => ?_
 ·rw [hk] at h10t
  cases h10t
 refine sp (rs (y8 ?_))
 refine nl (rs (y1 (nl ?_)))
 refine rt ?_
 rw [hok, hmo]
 rw [hmo] at hm2
 refine ⟨rfl, l2, ?_, hl2, hm2⟩
 rw [show (pre ++ frC (if (true && true) = true then goF x else x) a) = (pre ++ frC x a).set (pre.length + 1) (zi (x.at_ + 1)) from (fr_jump (pre := pre) (x := x) (a := a) _).symm]
 exact sub_mid2 _ [_, _, _] _ _

theorem do32Ld (s g n c pg : Nat) (ps : PS) (pre : List T) (x : Fr) (a : FA) (i : Ins) (l : List Pg) (hx : FrOk x) (hpg : ps.pages = mapT pg) (hl : PgOk l) (hd : ps.prog.data.length ≤ 1048576) (hz0 : 0 ≤ ps.prog.zero) (hz1 : ps.prog.zero ≤ 268435456) (hk : i.kind = 17) (ha : (hasF i.kind).a = true → 0 ≤ i.a ∧ i.a < (x.nr : Int)) (hb : (hasF i.kind).b = true → 0 ≤ i.b ∧ i.b < (x.nr : Int)) (hdr : (hasF i.kind).d = true → 0 ≤ i.d ∧ i.d < (x.nr : Int)) (hr : ∀ r ∈ readsF i, 0 ≤ r ∧ r < (x.nr : Int)) (hg : i.args.length ≤ 1048576) (hat : 0 ≤ x.at_ ∧ x.at_ ≤ 4611686018427387904) :
    ACalls Tryz.prog 37 [pv s, .ep (.slice (sg g) n c) pre.length, .agg (insCells i)] (([Ent.box s 83 (psC ps (.v (.slice (sg g) n c))), Ent.row (sg g) n c 104 7 (pre ++ frC x a)] ++ frR x a) ++ (memE 129 pg l)) (fun t S => t = bv (okS x.set (readsF i) && (sizeOk i.size && thereF (psData ps.prog) ps.heap (adF x i) (wI i.size))) ∧ S = ([Ent.box s 83 (psC ps (.v (.slice (sg g) n c))), Ent.row (sg g) n c 104 7 (pre ++ frC (if (okS x.set (readsF i) && (sizeOk i.size && thereF (psData ps.prog) ps.heap (adF x i) (wI i.size))) = true then goF (setD x i.d (leF (getM l) (adF x i) i.size.toNat)) else x) a)] ++ frR (if (okS x.set (readsF i) && (sizeOk i.size && thereF (psData ps.prog) ps.heap (adF x i) (wI i.size))) = true then goF (setD x i.d (leF (getM l) (adF x i) i.size.toNat)) else x) a) ++ (memE 129 pg l)) := by
 refine lsr (R := (fun t S => t = bv (okS x.set (readsF i) && (sizeOk i.size && thereF (psData ps.prog) ps.heap (adF x i) (wI i.size))) ∧ (([Ent.box s 83 (psC ps (.v (.slice (sg g) n c))), Ent.row (sg g) n c 104 7 (pre ++ frC (if (okS x.set (readsF i) && (sizeOk i.size && thereF (psData ps.prog) ps.heap (adF x i) (wI i.size))) = true then goF (setD x i.d (leF (getM l) (adF x i) i.size.toNat)) else x) a)] ++ frR (if (okS x.set (readsF i) && (sizeOk i.size && thereF (psData ps.prog) ps.heap (adF x i) (wI i.size))) = true then goF (setD x i.d (leF (getM l) (adF x i) i.size.toNat)) else x) a) ++ (memE 129 pg l)).Sublist S)) (fun t S' ⟨h1, h2⟩ => ⟨_, h2, h1, rfl⟩) ?_
 have hl1 := hx.r
 have hl3 := hx.t
 obtain ⟨hat0, hat1⟩ := hat
 refine ai Tryz.func37 Tryz.ntmps37 fun X w0 => ?_
 refine rs ?_
 refine bg fun b4 => ?_
 refine bg fun b5 => ?_
 refine y1 ?_
 refine nl (rs ?_)
 refine bg fun b7 => ?_
 refine y1 ?_
 refine nl (rs (y1 ?_))
 refine Y1 (Yv.makeFunc rfl evs0 rfl (evsC eV (evsC eV evs0)) rfl) ?_
 refine AWL.perm (S' := [Ent.box b7 4 [bv (true)], Ent.box b4 101 [.ep (.slice (sg g) n c) pre.length], Ent.row (sg g) n c 104 7 (pre ++ frC x a), Ent.row a.t x.nr x.nr 4 1 (x.set.map bv)] ++ ([Ent.box s 83 (psC ps (.v (.slice (sg g) n c))), Ent.row a.r x.nr x.nr 29 1 (x.r.map zw), Ent.row a.s x.ns x.ns 29 1 (x.slot.map zw), Ent.row a.h x.ns x.ns 4 1 (x.there.map bv), Ent.box b5 90 (insCells i)] ++ (memE 129 pg l))) pmAv ?_
 refine kc (reads49 b7 b4 g n c pre x a true i hx.t hg hr) ?_
 rintro t14 S14 ⟨rfl, rfl⟩
 refine AWL.perm (S' := ([Ent.box s 83 (psC ps (.v (.slice (sg g) n c))), Ent.row (sg g) n c 104 7 (pre ++ frC x a)] ++ frR x a) ++ ([Ent.box b4 101 [.ep (.slice (sg g) n c) pre.length], Ent.box b5 90 (insCells i), Ent.box b7 4 [bv (okS x.set (readsF i))]] ++ (memE 129 pg l))) pmB0 ?_
 refine nl (sq (rs (y2 (nl ?_))))
 refine cq (fun h0t => ?_) fun h0f => ?_
 ·refine rs (y1 (nl ?_))
  refine rt ?_
  rw [show okS x.set (readsF i) = false by simpa using h0t]
  exact ⟨rfl, sub_mid _ _ _⟩
 have hok : okS x.set (readsF i) = true := by simpa using h0f
 refine sp (rs (y2 ?_))
 refine nl (sq (rs (y2 ?_)))
 refine nl (bk (rs (y2 (nl ?_))))
 refine cf fun _ => ?_
 refine rs (y2 (nl ?_))
 refine cf fun _ => ?_
 refine sq (rs (y2 (nl ?_)))
 refine cf fun _ => ?_
 refine rs (y2 (nl ?_))
 refine cf fun _ => ?_
 refine rs (y2 (nl ?_))
 refine cf fun _ => ?_
 refine rs (y2 (nl ?_))
 refine cf fun _ => ?_
 refine rg (y2 (nl ?_))
 refine cf fun _ => ?_
 refine rs (y2 (nl ?_))
 refine cf fun _ => ?_
 refine rs (y2 (nl ?_))
 refine cf fun _ => ?_
 refine rs (y2 (nl ?_))
 refine ct fun _ => ?_
 obtain ⟨ha0, ha1⟩ := ha (by rw [hk]; rfl)
 obtain ⟨hd0, hd1⟩ := hdr (by rw [hk]; rfl)
 refine AW.regionP rfl ?_
 refine phn 15 6 ?_
 refine q7 ?_
 refine Q1 (ix (j := i.a.toNat) (hj := fun hg => ⟨(Int.toNat_of_nonneg ha0).symm, show i.a.toNat < x.nr by omega⟩)) ?_
 refine q3 ?_
 refine Q1 (Yv.convW rfl Tryz.underlying2 kd_29 eV) ?_
 refine Q1 (Yv.addW rfl eV eV) ?_
 refine q2 (nq ?_)
 refine op 15 ?_
 refine AWL.perm (S' := (Ent.box s 83 (psC ps (.v (.slice (sg g) n c))) :: memE 129 pg l) ++ ([Ent.row (sg g) n c 104 7 (pre ++ frC x a)] ++ frR x a ++ [Ent.box b4 101 [.ep (.slice (sg g) n c) pre.length], Ent.box b5 90 (insCells i), Ent.box b7 4 [bv (okS x.set (readsF i))]])) (toMem (X := Ent.box s 83 (psC ps (.v (.slice (sg g) n c)))) (W := [Ent.row (sg g) n c 104 7 (pre ++ frC x a)] ++ frR x a ++ [Ent.box b4 101 [.ep (.slice (sg g) n c) pre.length], Ent.box b5 90 (insCells i), Ent.box b7 4 [bv (okS x.set (readsF i))]])) ?_
 refine kc (Load54 s pg ps _ l hpg hl hd hz0 hz1 (adF x i) i.size) ?_
 rintro t166 S166 ⟨rfl, rfl⟩
 refine AWL.perm (S' := ([Ent.box s 83 (psC ps (.v (.slice (sg g) n c))), Ent.row (sg g) n c 104 7 (pre ++ frC x a)] ++ frR x a) ++ ([Ent.box b4 101 [.ep (.slice (sg g) n c) pre.length], Ent.box b5 90 (insCells i), Ent.box b7 4 [bv (okS x.set (readsF i))]] ++ memE 129 pg l)) (toMem (X := Ent.box s 83 (psC ps (.v (.slice (sg g) n c)))) (W := [Ent.row (sg g) n c 104 7 (pre ++ frC x a)] ++ frR x a ++ [Ent.box b4 101 [.ep (.slice (sg g) n c) pre.length], Ent.box b5 90 (insCells i), Ent.box b7 4 [bv (okS x.set (readsF i))]])).symm (nl ?_)
 refine op 16 ?_
 refine y1 (nl ?_)
 refine tp 17 ?_
 refine tp 18 ?_
 refine op 19 ?_
 refine y1 (nl ?_)
 refine op 20 ?_
 refine y1 (nl ?_)
 refine dn ?_
 refine sq (rs (y2 (nl ?_)))
 refine cq (fun h11t => ?_) fun h11f => ?_
 ·have hmo : (sizeOk i.size && thereF (psData ps.prog) ps.heap (adF x i) (wI i.size)) = false := by rw [← Bool.not_eq_true']; exact h11t
  refine rs (y1 (nl ?_))
  refine rt ?_
  rw [hok, hmo]
  exact ⟨rfl, sub_mid _ _ _⟩
 have hmo : (sizeOk i.size && thereF (psData ps.prog) ps.heap (adF x i) (wI i.size)) = true := by rw [← Bool.not_eq_false']; exact h11f
 rw [if_pos hmo]
 refine sp (sq (rs (y2 ?_)))
 refine kt (fields57 i.kind) ?_
 rintro t188 S188 rfl
 refine y3 ?_
 refine bx fun b10 => ?_
 refine AWL.perm (S' := ([Ent.box s 83 (psC ps (.v (.slice (sg g) n c))), Ent.row (sg g) n c 104 7 (pre ++ frC x a)] ++ frR x a) ++ ([Ent.box b4 101 [.ep (.slice (sg g) n c) pre.length], Ent.box b5 90 (insCells i), Ent.box b7 4 [bv (okS x.set (readsF i))]] ++ (Ent.box b10 143 (List.map T.v [Value.bool false, Value.bool false, Value.bool false, Value.bool false, Value.bool false, Value.bool false, Value.bool false, Value.bool false]) :: memE 129 pg l))) toTen ?_
 refine y2 ?_
 refine nl (rs (y2 (nl ?_)))
 refine cq (fun _ => ?_) fun h12f => ?_
 ·refine AW.regionH (HeldCs [(b4, 0, Value.pointer (some ⟨g, pre.length, none⟩)), (g, pre.length + 2, Value.slice a.r x.nr x.nr), (b5, 1, Value.int .i64 i.d), (g, pre.length + 4, Value.slice a.t x.nr x.nr)]) rfl (tells_cs tcA) ?_
  refine T2 (i := 0) rfl (heldB (r := .ep (.slice (sg g) n c) pre.length) 0 rfl ag_101 (E rfl rfl) rfl (fun _ _ => .ep)) ?_
  refine tq 1 ?_
  refine tq 2 ?_
  refine tq 3 ?_
  refine tq 4 ?_
  refine tq 5 ?_
  refine T2 (i := 6) rfl (heldB (r := .ep (.slice (sg g) n c) pre.length) 0 rfl ag_101 (E rfl rfl) rfl (fun _ _ => .ep)) ?_
  refine tq 7 ?_
  refine tq 8 ?_
  refine tq 9 ?_
  refine tq 10 ?_
  refine tq 11 ?_
  refine oh 12 ?_
  refine y1 ?_
  refine kh ?_
  refine oh 13 ?_
  refine Y1 (ix (j := i.d.toNat) (hj := fun hg => ⟨(Int.toNat_of_nonneg hd0).symm, show i.d.toNat < x.nr by omega⟩)) ?_
  refine kh ?_
  refine oh 14 ?_
  refine y1 ?_
  refine kh ?_
  refine oh 15 ?_
  refine Y1 (ix (j := i.d.toNat) (hj := fun hg => ⟨(Int.toNat_of_nonneg hd0).symm, show i.d.toNat < x.nr by omega⟩)) ?_
  refine kh ?_
  refine oh 16 ?_
  refine y1 ?_
  refine kh ?_
  refine dn ?_
  refine rs (y8 ?_)
  refine nl (rs (y1 (nl ?_)))
  refine rt ?_
  rw [hok, hmo]
  refine ⟨rfl, ?_⟩
  rw [show frR (if (true && true) = true then goF (setD x i.d (leF (getM l) (adF x i) i.size.toNat)) else x) a = frR (setD x i.d (leF (getM l) (adF x i) i.size.toNat)) a from rfl, setD_rows, show (pre ++ frC (if (true && true) = true then goF (setD x i.d (leF (getM l) (adF x i) i.size.toNat)) else x) a) = (pre ++ frC x a).set (pre.length + 1) (zi (x.at_ + 1)) from (fr_jump (pre := pre) (x := x) (a := a) _).symm]
  exact sub_mid2 _ [_, _, _] _ _
 rw [hk] at h12f
 cases h12f

end Go.Proofs.YtlfklgganokgdaaGreat
