/-
  OPENING A FILE, in plain words.
-/
import Derived.Test.YtmiggpnkicdijaaFile
namespace Go.Proofs.Ytmiggpnkicdijaa
open Go Go.RowKit
def putF (f : FileR) : List FileR → List FileR
  | [] => [f]
  | g :: r => if g.name = f.name then f :: r else g :: putF f r
def hasK (name : List UInt8) (l : List FileR) : Bool := (getK (.s name) (l.map fileKey)).isSome
def freeIx (o : List Desc) : Nat := o.findIdx fun d => decide (d.kind = 0)
def openR (name : List UInt8) (flags : Int) (ws : WS) : Int :=
  if 255 < name.length then -36 else if (flags ≠ 0 ∧ flags ≠ 577) ∨ 0 ≤ Lib.indexByte name 0 then -22 else if name = [] then -2 else if flags = 0 ∧ hasK name ws.files = false then -2 else if freeIx ws.opn < 19 then freeIx ws.opn else -24
def openS (name : List UInt8) (flags : Int) (A : Option Addr) (c : Nat) (tA : Option Addr) (tc : Nat) (ws : WS) : WS :=
  if openR name flags ws < 0 then ws else if flags = 577 then
    { ws with opn := ws.opn.set (freeIx ws.opn) ⟨5, name, 0⟩, files := putF ⟨name, [], A, c⟩ ws.files, trace := ws.trace ++ [⟨3, name, []⟩], tA := tA, tc := tc }
  else { ws with opn := ws.opn.set (freeIx ws.opn) ⟨4, name, 0⟩ }
theorem put_key (f : FileR) : ∀ (l : List FileR), putK (.s f.name) (.v (.slice f.A f.bytes.length f.c)) (l.map fileKey) = (putF f l).map fileKey
  | [] => rfl
  | g :: r => by
    rw [List.map_cons, putK, putF]
    by_cases h : g.name = f.name
    · rw [if_pos h, if_pos (by simp [fileKey, h])]; rfl
    · rw [if_neg h, if_neg (by simpa [fileKey] using h), put_key f r]; rfl
theorem put_rows (f : FileR) : ∀ (l : List FileR), ∃ S' : St, S'.Sublist (l.map fileRow ++ [fileRow f]) ∧ ((putF f l).map fileRow).Perm S'
  | [] => ⟨_, .refl _, .refl _⟩
  | g :: r => by
    rw [putF]
    split
    · exact ⟨r.map fileRow ++ [fileRow f], by rw [List.map_cons, List.cons_append]; exact List.sublist_cons_self _ _, by
        rw [List.map_cons]
        exact (List.perm_append_singleton _ _).symm⟩
    · obtain ⟨S', h1, h2⟩ := put_rows f r
      exact ⟨fileRow g :: S', by rw [List.map_cons, List.cons_append]; exact h1.cons_cons _, by rw [List.map_cons]; exact h2.cons _⟩
theorem freeIx_is {o : List Desc} {j : Nat} (h : j < o.length) (h0 : (o.getD j default).kind = 0) (hb : ∀ i, i < j → (o.getD i default).kind ≠ 0) : freeIx o = j := by
  unfold freeIx
  rw [List.findIdx_eq h]
  refine ⟨by rw [getD_eq' h] at h0; simpa using h0, fun i hi => ?_⟩
  have := hb i hi
  rw [getD_eq' (show i < o.length by omega)] at this
  simpa using this
theorem freeIx_none {o : List Desc} (hb : ∀ i, i < o.length → (o.getD i default).kind ≠ 0) : ¬ freeIx o < o.length := by
  unfold freeIx
  intro h
  have h2 := List.findIdx_getElem (w := h)
  have h1 := hb _ h
  rw [getD_eq' h] at h1
  simp only [decide_eq_true_eq] at h2
  exact h1 h2
section
variable {cx : Cx} {env : Env} {S : St} {Q : Exit → Env → St → Prop}
theorem AW.filePut {code : Code} {a b c : Ent} {l : List FileR} (f : FileR) (hS : S = (a :: b :: c :: l.map fileRow) ++ [fileRow f]) (h : AW cx code Q env (a :: b :: c :: (putF f l).map fileRow)) : AW cx code Q env S := by
  subst hS
  obtain ⟨S', h1, h2⟩ := put_rows f l
  exact AW.drop (S' := a :: b :: c :: S') (((h1.cons_cons c).cons_cons b).cons_cons a) (AW.perm (((h2.cons c).cons b).cons a) h)
end
theorem wst_desc {b m j : Nat} {ws : WS} (hj : j < ws.opn.length) (i q : Nat) (new : List T) (d' : Desc) (hin : i + q ≤ 3) (he : descCells d' = (descCells (ws.opn.getD j default)).take i ++ new ++ (descCells (ws.opn.getD j default)).drop (i + q)) :
    (WSt b m ws).set 0 (.box b 70 ((wCells m ws.stdin ws.opn ws.tA ws.trace.length ws.tc).take (2 + j * 3 + i) ++ new ++ (wCells m ws.stdin ws.opn ws.tA ws.trace.length ws.tc).drop (2 + j * 3 + i + q))) = WSt b m { ws with opn := ws.opn.set j d' } := by
  rw [set_desc hj i q new d' hin he]; rfl
theorem wst_event {b m : Nat} {ws : WS} (ho : ws.opn.length = 19) (e : Evt) (A : Option Addr) (c : Nat) : WSt b m { ws with trace := ws.trace ++ [e], tA := A, tc := c } =
    .box b 70 ((wCells m ws.stdin ws.opn ws.tA ws.trace.length ws.tc).take 59 ++ [.v (.slice A (ws.trace.length + 1) c)] ++ (wCells m ws.stdin ws.opn ws.tA ws.trace.length ws.tc).drop 60) :: .map m (ws.files.map fileKey) :: .row A (ws.trace.length + 1) c 36 3 (ws.trace.flatMap evCells ++ evCells e) :: ws.files.map fileRow := by
  simp only [WSt, List.length_append, List.length_cons, List.length_nil, List.flatMap_append, List.flatMap_cons, List.flatMap_nil, List.append_nil, Nat.zero_add]
  rw [set_trace ho]
end Go.Proofs.Ytmiggpnkicdijaa
