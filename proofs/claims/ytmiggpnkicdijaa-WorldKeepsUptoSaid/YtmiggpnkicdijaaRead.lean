/-
  READING, in plain words.
-/
import Derived.Test.YtmiggpnkicdijaaOpenF
import Derived.Test.YtmiggpnkicdijaaAw19
namespace Go.Proofs.Ytmiggpnkicdijaa
open Go Go.RowKit
theorem indexByte_lt : ∀ (l : List UInt8) (c : UInt8), Lib.indexByte l c < l.length
  | [], _ => by simp [Lib.indexByte]
  | b :: r, c => by
    have ih := indexByte_lt r c
    unfold Lib.indexByte
    simp only [List.length_cons]
    split
    · omega
    · split <;> omega
def lineN (s : List UInt8) : Nat := if Lib.indexByte s 10 < 0 then s.length else (Lib.indexByte s 10 + 1).toNat
theorem lineN_le (s : List UInt8) : lineN s ≤ s.length := by
  have := indexByte_lt s 10
  unfold lineN
  split <;> omega
theorem has_file : ∀ {l : List FileR} {name : List UInt8}, hasK name l = true → ∃ q, q < l.length ∧ (l.getD q default).name = name
  | [], _, h => by cases h
  | f :: r, name, h => by
    unfold hasK at h
    rw [List.map_cons, getK] at h
    by_cases he : (fileKey f).1 = .s name
    · exact ⟨0, by simp, by simpa [fileKey] using he⟩
    · rw [if_neg he] at h
      obtain ⟨q, h1, h2⟩ := has_file (l := r) (name := name) h
      exact ⟨q + 1, by simpa using h1, by rw [List.getD_cons_succ]; exact h2⟩
structure OpenOk (name : List UInt8) (flags : Int) (ws : WS) : Prop where
  len : name.length ≤ 255
  ix : freeIx ws.opn < 19
  is : openR name flags ws = (freeIx ws.opn : Int)
  ne : name ≠ []
  idx : Lib.indexByte name 0 < 0
  has : flags = 0 → hasK name ws.files = true
theorem open_ok {name : List UInt8} {flags : Int} {ws : WS} (h : ¬ openR name flags ws < 0) : OpenOk name flags ws := by
  have h' := h
  unfold openR at h
  split at h
  · exact absurd (by decide) h
  · split at h
    · exact absurd (by decide) h
    · split at h
      · exact absurd (by decide) h
      · split at h
        · exact absurd (by decide) h
        · split at h
          · rename_i h1 h2 h3 h4 h5
            refine ⟨by omega, h5, ?_, h3, by omega, fun hf => ?_⟩
            · unfold openR
              rw [if_neg h1, if_neg h2, if_neg h3, if_neg h4, if_pos h5]
            · cases hk : hasK name ws.files with
              | true => rfl
              | false => exact absurd ⟨hf, hk⟩ h4
          · exact absurd (by decide) h
theorem openS_neg {name : List UInt8} {flags : Int} {ws : WS} {A tA : Option Addr} {c tc : Nat} (h : openR name flags ws < 0) : openS name flags A c tA tc ws = ws := by unfold openS; rw [if_pos h]
theorem openS_read {name : List UInt8} {ws : WS} {A tA : Option Addr} {c tc : Nat} (h : ¬ openR name 0 ws < 0) : openS name 0 A c tA tc ws = { ws with opn := ws.opn.set (freeIx ws.opn) ⟨4, name, 0⟩ } := by
  unfold openS; rw [if_neg h, if_neg (by decide)]
theorem openS_write {name : List UInt8} {ws : WS} {A tA : Option Addr} {c tc : Nat} (h : ¬ openR name 577 ws < 0) : openS name 577 A c tA tc ws = { ws with opn := ws.opn.set (freeIx ws.opn) ⟨5, name, 0⟩, files := putF ⟨name, [], A, c⟩ ws.files, trace := ws.trace ++ [⟨3, name, []⟩], tA := tA, tc := tc } := by
  unfold openS; rw [if_neg h, if_pos rfl]
theorem put_q (f : FileR) : ∀ (l : List FileR), ∃ q, q < (putF f l).length ∧ (putF f l).getD q default = f
  | [] => ⟨0, by simp [putF], by simp [putF]⟩
  | g :: r => by
    rw [putF]
    split
    · exact ⟨0, by simp, by simp⟩
    · obtain ⟨q, h1, h2⟩ := put_q f r
      exact ⟨q + 1, by simpa using h1, by rw [List.getD_cons_succ]; exact h2⟩
theorem putF_mem {f x : FileR} : ∀ {l : List FileR}, x ∈ putF f l → x = f ∨ x ∈ l
  | [], h => by simp [putF] at h; exact .inl h
  | g :: r, h => by
    rw [putF] at h
    split at h
    · rcases List.mem_cons.1 h with rfl | h
      · exact .inl rfl
      · exact .inr (List.mem_cons_of_mem _ h)
    · rcases List.mem_cons.1 h with rfl | h
      · exact .inr (List.mem_cons_self ..)
      · exact (putF_mem h).imp id (List.mem_cons_of_mem _)
theorem uniq_putF {f : FileR} : ∀ {l : List FileR}, Uniq l → Uniq (putF f l)
  | [], _ => by simp [Uniq, putF]
  | g :: r, h => by
    rw [Uniq, List.map_cons, List.nodup_cons] at h
    rw [putF]
    split
    · rename_i he
      rw [Uniq, List.map_cons, List.nodup_cons, ← he]
      exact h
    · rename_i he
      rw [Uniq, List.map_cons, List.nodup_cons]
      refine ⟨fun hm => ?_, uniq_putF h.2⟩
      obtain ⟨x, hx, hn⟩ := List.mem_map.1 hm
      rcases putF_mem hx with rfl | hx
      · exact he hn.symm
      · exact h.1 (List.mem_map.2 ⟨x, hx, hn⟩)
theorem wb_opn {n : Nat} {ws : WS} (h : WB n ws) (i : Nat) (d : Desc) (hd : d.place ≤ n) : WB n { ws with opn := ws.opn.set i d } :=
  ⟨by simpa using h.opn, h.tr, h.txt, h.fl, fun x hx => by
    rcases List.mem_or_eq_of_mem_set hx with hx | rfl
    · exact h.pl x hx
    · exact hd, h.sin⟩
theorem wb_open {n : Nat} {ws : WS} (h : WB n ws) (i : Nat) (name : List UInt8) (A tA : Option Addr) (c tc : Nat) : WB (n + 1) { ws with opn := ws.opn.set i ⟨5, name, 0⟩, files := putF ⟨name, [], A, c⟩ ws.files, trace := ws.trace ++ [⟨3, name, []⟩], tA := tA, tc := tc } := by
  obtain ⟨ho, htr, htx, hfl, hpl, hsi⟩ := h
  refine ⟨by simpa using ho, by simp; omega, fun e he => ?_, fun f hf => ?_, fun x hx => ?_, by simp only; omega⟩
  · rcases List.mem_append.1 he with he | he
    · have := htx e he; omega
    · rcases List.mem_singleton.1 he with rfl
      simp
  · rcases putF_mem hf with rfl | hf
    · simp
    · have := hfl f hf; omega
  · rcases List.mem_or_eq_of_mem_set hx with hx | rfl
    · have := hpl x hx; omega
    · simp
end Go.Proofs.Ytmiggpnkicdijaa
