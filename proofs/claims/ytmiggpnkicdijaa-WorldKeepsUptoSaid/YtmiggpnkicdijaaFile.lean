/-
  A FILE'S BYTES, written at a place.
-/
import Derived.Test.YtmiggpnkicdijaaAw18
import Derived.Test.YtmiggpnkicdijaaSay
namespace Go.Proofs.Ytmiggpnkicdijaa
open Go Go.RowKit
/-- At least so many bytes, zeros behind. -/
def padTo (l : List UInt8) (n : Nat) : List UInt8 := l ++ List.replicate (n - l.length) 0
def writeAt (l : List UInt8) (p : Nat) (s : List UInt8) : List UInt8 := (padTo l (p + s.length)).take p ++ s ++ (padTo l (p + s.length)).drop (p + s.length)
theorem padTo_len (l : List UInt8) (n : Nat) : (padTo l n).length = max l.length n := by simp [padTo]; omega
theorem writeAt_len (l : List UInt8) (p : Nat) (s : List UInt8) : (writeAt l p s).length = max l.length (p + s.length) := by
  have := padTo_len l (p + s.length)
  simp only [writeAt, List.length_append, List.length_take, List.length_drop]
  omega
theorem writeAt_cells (l : List UInt8) (p : Nat) (s : List UInt8) : ((padTo l (p + s.length)).map u8).take p ++ s.map u8 ++ ((padTo l (p + s.length)).map u8).drop (p + s.length) = (writeAt l p s).map u8 := by
  simp only [writeAt, List.map_append, List.map_take, List.map_drop]
theorem writeAt_end (l s : List UInt8) : writeAt l l.length s = l ++ s := by
  unfold writeAt padTo
  rw [List.take_left' rfl, List.drop_of_length_le (by simp), List.append_nil]
theorem pad_cells (l : List UInt8) (k : Nat) : l.map u8 ++ List.replicate k (T.v (.int .u8 0)) = (l ++ List.replicate k 0).map u8 := by
  simp [u8]
/-- Names are unlike. -/
def Uniq (l : List FileR) : Prop := (l.map (·.name)).Nodup
theorem get_file {l : List FileR} : ∀ {q : Nat}, Uniq l → q < l.length → getK (.s (l.getD q default).name) (l.map fileKey) = some (fileKey (l.getD q default)).2 := by
  induction l with
  | nil => intro q _ h; simp at h
  | cons f r ih =>
    intro q hu hq
    rw [Uniq, List.map_cons, List.nodup_cons] at hu
    cases q with
    | zero => simp [getK, fileKey]
    | succ q =>
      have hq' : q < r.length := by simpa using hq
      rw [List.getD_cons_succ, List.map_cons, getK, if_neg, ih hu.2 hq']
      intro e
      simp only [fileKey, Key.s.injEq] at e
      refine hu.1 (List.mem_map.2 ⟨r.getD q default, ?_, e.symm⟩)
      rw [getD_eq' hq']
      exact List.getElem_mem hq'
theorem put_file {l : List FileR} : ∀ {q : Nat} (f : FileR), Uniq l → q < l.length → f.name = (l.getD q default).name → putK (.s f.name) (.v (.slice f.A f.bytes.length f.c)) (l.map fileKey) = (l.set q f).map fileKey := by
  induction l with
  | nil => intro q f _ h; simp at h
  | cons f0 r ih =>
    intro q f hu hq he
    rw [Uniq, List.map_cons, List.nodup_cons] at hu
    cases q with
    | zero =>
      simp only [List.getD_cons_zero] at he
      simp [putK, fileKey, he]
    | succ q =>
      have hq' : q < r.length := by simpa using hq
      rw [List.getD_cons_succ] at he
      rw [List.map_cons, putK, if_neg, List.set_cons_succ, List.map_cons, ih f hu.2 hq' he]
      intro e
      simp only [fileKey, Key.s.injEq] at e
      refine hu.1 (List.mem_map.2 ⟨r.getD q default, ?_, ?_⟩)
      · rw [getD_eq' hq']; exact List.getElem_mem hq'
      · rw [e, he]
theorem put_new {l : List FileR} (f : FileR) (h : ∀ g ∈ l, g.name ≠ f.name) : putK (.s f.name) (.v (.slice f.A f.bytes.length f.c)) (l.map fileKey) = (l ++ [f]).map fileKey := by
  induction l with
  | nil => rfl
  | cons g r ih =>
    rw [List.map_cons, putK, if_neg, ih (fun x hx => h x (List.mem_cons_of_mem _ hx))]
    · rfl
    · intro e
      simp only [fileKey, Key.s.injEq] at e
      exact h g (List.mem_cons_self ..) e
theorem get_none {l : List FileR} {name : List UInt8} (h : ∀ g ∈ l, g.name ≠ name) : getK (.s name) (l.map fileKey) = none := by
  induction l with
  | nil => rfl
  | cons g r ih =>
    rw [List.map_cons, getK, if_neg, ih (fun x hx => h x (List.mem_cons_of_mem _ hx))]
    intro e
    simp only [fileKey, Key.s.injEq] at e
    exact h g (List.mem_cons_self ..) e
theorem file_row {b m : Nat} {ws : WS} {q : Nat} (h : q < ws.files.length) : (WSt b m ws)[q + 3]? = some (fileRow (ws.files.getD q default)) := by
  have : (WSt b m ws)[q + 3]? = (ws.files.map fileRow)[q]? := rfl
  rw [this, List.getElem?_map, getD_eq' h, List.getElem?_eq_getElem h]
  rfl
theorem row_set {b m : Nat} {ws : WS} {q : Nat} (f : FileR) : (WSt b m ws).set (q + 3) (fileRow f) = .box b 70 (wCells m ws.stdin ws.opn ws.tA ws.trace.length ws.tc) :: .map m (ws.files.map fileKey) :: .row ws.tA ws.trace.length ws.tc 36 3 (ws.trace.flatMap evCells) :: (ws.files.set q f).map fileRow := by
  rw [List.map_set]; rfl
theorem file_row_set {b m : Nat} {ws : WS} {q : Nat} (h : q < ws.files.length) (e : Ent) : ((WSt b m ws).set (q + 3) e)[q + 3]? = some e := by
  rw [List.getElem?_set_self]
  show q + 3 < (ws.files.map fileRow).length + 1 + 1 + 1
  rw [List.length_map]; omega
theorem getD_set {α : Type} {l : List α} {j : Nat} (h : j < l.length) (a d : α) : (l.set j a).getD j d = a := by
  simp [List.getD, h]
theorem wst_same {b m : Nat} {ws : WS} {q : Nat} (h : q < ws.files.length) : (WSt b m ws).set (q + 3) (fileRow (ws.files.getD q default)) = WSt b m ws := by
  rw [row_set, getD_eq' h, List.set_getElem_self]; rfl
theorem wst_wrote {b m : Nat} {ws : WS} {q j : Nat} (f1 f2 : FileR) (d2 : Desc) : ((((WSt b m ws).set (q + 3) (fileRow f1)).set (q + 3) (fileRow f2)).set 1 (.map m ((ws.files.set q f2).map fileKey))).set 0 (.box b 70 (wCells m ws.stdin (ws.opn.set j d2) ws.tA ws.trace.length ws.tc)) = WSt b m { ws with files := ws.files.set q f2, opn := ws.opn.set j d2 } := by
  rw [List.set_set, row_set]; rfl
theorem padTo_id {l : List UInt8} {n : Nat} (h : n ≤ l.length) : padTo l n = l := by
  unfold padTo
  rw [show n - l.length = 0 by omega]; simp
theorem rot3 {a b c : Ent} {l : St} : (c :: a :: b :: l).Perm (a :: b :: c :: l) :=
  (List.Perm.swap a c (b :: l)).trans ((List.Perm.swap b c l).cons a)
theorem rot3' {a b c : Ent} {l : St} : (a :: b :: c :: l).Perm (c :: a :: b :: l) := rot3.symm
/-- What a write to a file leaves. -/
def wrF (j q : Nat) (s : List UInt8) (A : Option Addr) (c : Nat) (tA : Option Addr) (tc : Nat) (ws : WS) : WS :=
  if s = [] then ws else
    { ws with files := ws.files.set q { ws.files.getD q default with bytes := writeAt (ws.files.getD q default).bytes (ws.opn.getD j default).place s, A := A, c := c }, opn := ws.opn.set j { ws.opn.getD j default with place := (ws.opn.getD j default).place + s.length },
              trace := sayF 3 (ws.opn.getD j default).name s ws.trace, tA := tA, tc := tc }
theorem wb_wrote {j q n : Nat} {ws : WS} {s : List UInt8} (hj : j < 19) (hq : q < ws.files.length) (hw : WB n ws) (A : Option Addr) (c : Nat) :
    WB (n + s.length) { ws with files := ws.files.set q { ws.files.getD q default with bytes := writeAt (ws.files.getD q default).bytes (ws.opn.getD j default).place s, A := A, c := c }, opn := ws.opn.set j { ws.opn.getD j default with place := (ws.opn.getD j default).place + s.length } } := by
  obtain ⟨ho, htr, htx, hfl, hpl, hsi⟩ := hw
  have h1 : (ws.opn.getD j default).place ≤ n := hpl _ (by rw [getD_eq' (show j < ws.opn.length by omega)]; exact List.getElem_mem _)
  have h2 : (ws.files.getD q default).bytes.length ≤ n := hfl _ (by rw [getD_eq' hq]; exact List.getElem_mem _)
  refine ⟨by simpa using ho, by simp only; omega, fun e he => by have := htx e he; omega, fun f hf => ?_, fun d hd => ?_, by simp only; omega⟩
  · rcases List.mem_or_eq_of_mem_set hf with hf | rfl
    · have := hfl f hf; omega
    · simp only [writeAt_len]; omega
  · rcases List.mem_or_eq_of_mem_set hd with hd | rfl
    · have := hpl d hd; omega
    · simp only; omega
def closeF (j : Nat) (o : List Desc) : List Desc := if (o.getD j default).kind = 0 then o else o.set j ⟨0, [], 0⟩
theorem getD_mem' {α : Type} [Inhabited α] {l : List α} {j : Nat} (h : j < l.length) : l.getD j default ∈ l := by
  rw [getD_eq' h]; exact List.getElem_mem h
end Go.Proofs.Ytmiggpnkicdijaa
