/-
  A WORLD as plain data: its cells, its entries; what the package's functions compute, in plain words.
-/
import Derived.Test.YtmiggpnkicdijaaAw17
namespace Go.Proofs.Ytmiggpnkicdijaa
open Go Go.RowKit
structure Desc where
  kind : Int
  name : List UInt8
  place : Nat
  deriving Inhabited, DecidableEq
structure Evt where
  kind : Int
  name : List UInt8
  text : List UInt8
  deriving Inhabited, DecidableEq
/-- A file; where its bytes lie. -/
structure FileR where
  name : List UInt8
  bytes : List UInt8
  A : Option Addr
  c : Nat
  deriving Inhabited
structure WS where
  files : List FileR
  stdin : List UInt8
  opn : List Desc
  trace : List Evt
  tA : Option Addr
  tc : Nat
  deriving Inhabited
def descCells (d : Desc) : List T := [.v (.int .i64 d.kind), sv d.name, .v (.int .i64 (d.place : Int))]
def evCells (e : Evt) : List T := [.v (.int .i64 e.kind), sv e.name, sv e.text]
def wCells (m : Nat) (s : List UInt8) (o : List Desc) (A : Option Addr) (n c : Nat) : List T := [.v (.map (some m)), sv s] ++ o.flatMap descCells ++ [.v (.slice A n c)]
def fileKey (f : FileR) : Key × T := (.s f.name, .v (.slice f.A f.bytes.length f.c))
def fileRow (f : FileR) : Ent := .row f.A f.bytes.length f.c 5 1 (f.bytes.map u8)
/-- The world's entries. -/
def WSt (b m : Nat) (ws : WS) : St := .box b 70 (wCells m ws.stdin ws.opn ws.tA ws.trace.length ws.tc) :: .map m (ws.files.map fileKey) :: .row ws.tA ws.trace.length ws.tc 36 3 (ws.trace.flatMap evCells) :: ws.files.map fileRow
def wp (b : Nat) : T := .v (.pointer (some ⟨b, 0, none⟩))

theorem len_flat {α : Type} {f : α → List T} {k : Nat} (hk : ∀ a, (f a).length = k) : ∀ (l : List α), (l.flatMap f).length = l.length * k
  | [] => by simp
  | a :: r => by rw [List.flatMap_cons, List.length_append, hk, len_flat hk r, List.length_cons, Nat.add_mul]; omega
theorem drop_flat {α : Type} {f : α → List T} {k : Nat} (hk : ∀ a, (f a).length = k) : ∀ (l : List α) (j : Nat), (l.flatMap f).drop (j * k) = (l.drop j).flatMap f
  | [], j => by simp
  | a :: r, 0 => by simp
  | a :: r, j + 1 => by
    rw [List.flatMap_cons, Nat.add_mul, Nat.one_mul, Nat.add_comm, List.drop_append, List.drop_of_length_le (by rw [hk]; omega), hk, List.nil_append, Nat.add_sub_cancel_left, drop_flat hk r j]
    rfl
theorem take_flat' {α : Type} {f : α → List T} {k : Nat} (hk : ∀ a, (f a).length = k) : ∀ (l : List α) (j : Nat), (l.flatMap f).take (j * k) = (l.take j).flatMap f
  | [], j => by simp
  | a :: r, 0 => by simp
  | a :: r, j + 1 => by
    rw [List.flatMap_cons, Nat.add_mul, Nat.one_mul, Nat.add_comm, List.take_append, List.take_of_length_le (by rw [hk]; omega), hk, Nat.add_sub_cancel_left, take_flat' hk r j]
    rfl
theorem getD_eq' {α : Type} [Inhabited α] {l : List α} {j : Nat} (h : j < l.length) : l.getD j default = l[j] := by simp [h]
theorem flat_at {α : Type} [Inhabited α] {f : α → List T} {k : Nat} (hk : ∀ a, (f a).length = k) {l : List α} {j : Nat} (h : j < l.length) (i : Nat) (hi : i < k) : (l.flatMap f)[j * k + i]? = (f (l.getD j default))[i]? := by
  rw [← List.getElem?_drop, drop_flat hk, List.drop_eq_getElem_cons h, List.flatMap_cons, getD_eq' h, List.getElem?_append_left (by rw [hk]; exact hi)]
theorem mid_set {X F Y new : List T} {p i n : Nat} (hX : X.length = p) (hF : i + n ≤ F.length) : (X ++ (F ++ Y)).take (p + i) ++ new ++ (X ++ (F ++ Y)).drop (p + i + n) = X ++ ((F.take i ++ new ++ F.drop (i + n)) ++ Y) := by
  subst hX
  rw [List.take_append, List.drop_append, List.take_of_length_le (l := X) (by omega), List.drop_of_length_le (l := X) (by omega), Nat.add_sub_cancel_left, show X.length + i + n - X.length = i + n by omega, List.nil_append]
  rw [List.take_append_of_le_length (by omega), List.drop_append_of_le_length hF]
  simp only [List.append_assoc]
theorem flat_set {α : Type} [Inhabited α] {f : α → List T} {k : Nat} (hk : ∀ a, (f a).length = k) {l : List α} {j : Nat} (h : j < l.length) (i n : Nat) (new : List T) (a' : α) (hin : i + n ≤ k) (he : f a' = (f (l.getD j default)).take i ++ new ++ (f (l.getD j default)).drop (i + n)) :
    (l.flatMap f).take (j * k + i) ++ new ++ (l.flatMap f).drop (j * k + i + n) = (l.set j a').flatMap f := by
  have e0 : l = l.take j ++ l[j] :: l.drop (j + 1) := by rw [← List.drop_eq_getElem_cons h, List.take_append_drop]
  have e1 : l.set j a' = l.take j ++ a' :: l.drop (j + 1) := by rw [List.set_eq_take_append_cons_drop, if_pos h]
  have hL : ((l.take j).flatMap f).length = j * k := by rw [len_flat hk, List.length_take, Nat.min_eq_left (by omega)]
  have e2 : l.flatMap f = (l.take j).flatMap f ++ (f l[j] ++ (l.drop (j + 1)).flatMap f) := by
    conv => lhs; rw [e0]
    rw [List.flatMap_append, List.flatMap_cons]
  rw [e1, List.flatMap_append, List.flatMap_cons, he, e2, getD_eq' h]
  exact mid_set hL (by rw [hk]; exact hin)
theorem dk (d : Desc) : (descCells d).length = 3 := rfl
theorem ek (e : Evt) : (evCells e).length = 3 := rfl
theorem len_desc {o : List Desc} : (o.flatMap descCells).length = o.length * 3 := len_flat dk o
theorem len_ev {l : List Evt} : (l.flatMap evCells).length = l.length * 3 := len_flat ek l
theorem wCells_len {m : Nat} {s : List UInt8} {o : List Desc} {A : Option Addr} {n c : Nat} : (wCells m s o A n c).length = o.length * 3 + 3 := by
  simp only [wCells, List.length_append, len_desc, List.length_cons, List.length_nil]; omega
/-- The cells of a descriptor. -/
theorem desc_at {m : Nat} {s : List UInt8} {o : List Desc} {A : Option Addr} {n c j : Nat} (h : j < o.length) (i : Nat) (hi : i < 3) : (wCells m s o A n c)[2 + j * 3 + i]? = (descCells (o.getD j default))[i]? := by
  unfold wCells
  rw [List.append_assoc, List.getElem?_append_right (by simp; omega)]
  have e : 2 + j * 3 + i - [T.v (.map (some m)), sv s].length = j * 3 + i := by simp; omega
  rw [e, List.getElem?_append_left (by rw [len_desc]; omega)]
  exact flat_at dk h i hi
theorem kind_at {m : Nat} {s : List UInt8} {o : List Desc} {A : Option Addr} {n c j : Nat} (h : j < o.length) : (wCells m s o A n c)[2 + j * 3 + 0]? = some (.v (.int .i64 (o.getD j default).kind)) := desc_at h 0 (by decide)
theorem name_at {m : Nat} {s : List UInt8} {o : List Desc} {A : Option Addr} {n c j : Nat} (h : j < o.length) : (wCells m s o A n c)[2 + j * 3 + 1]? = some (sv (o.getD j default).name) := desc_at h 1 (by decide)
theorem place_at {m : Nat} {s : List UInt8} {o : List Desc} {A : Option Addr} {n c j : Nat} (h : j < o.length) : (wCells m s o A n c)[2 + j * 3 + 2]? = some (.v (.int .i64 ((o.getD j default).place : Int))) := desc_at h 2 (by decide)
theorem trace_at {m : Nat} {s : List UInt8} {o : List Desc} {A : Option Addr} {n c : Nat} (h : o.length = 19) : (wCells m s o A n c)[59]? = some (.v (.slice A n c)) := by
  have hl : ([T.v (.map (some m)), sv s] ++ o.flatMap descCells).length = 59 := by rw [List.length_append, len_desc, h]; rfl
  unfold wCells
  rw [List.getElem?_append_right (by omega), hl]
  rfl
theorem stdin_at {m : Nat} {s : List UInt8} {o : List Desc} {A : Option Addr} {n c : Nat} : (wCells m s o A n c)[1]? = some (sv s) := rfl
theorem map_at {m : Nat} {s : List UInt8} {o : List Desc} {A : Option Addr} {n c : Nat} : (wCells m s o A n c)[0]? = some (.v (.map (some m))) := rfl
/-- Stores into the world's cells. -/
theorem set_desc {m : Nat} {s : List UInt8} {o : List Desc} {A : Option Addr} {n c j : Nat} (h : j < o.length) (i q : Nat) (new : List T) (d' : Desc) (hin : i + q ≤ 3) (he : descCells d' = (descCells (o.getD j default)).take i ++ new ++ (descCells (o.getD j default)).drop (i + q)) :
    (wCells m s o A n c).take (2 + j * 3 + i) ++ new ++ (wCells m s o A n c).drop (2 + j * 3 + i + q) = wCells m s (o.set j d') A n c := by
  have hf := flat_set dk h i q new d' hin he
  have hl : j * 3 + i + q ≤ (o.flatMap descCells).length := by rw [len_desc]; omega
  unfold wCells
  rw [← hf]
  rw [show 2 + j * 3 + i = 2 + (j * 3 + i) by omega, show 2 + (j * 3 + i) + q = 2 + (j * 3 + i + q) by omega]
  have e1 : ∀ (B C : List T) (p : Nat), p ≤ B.length → (([T.v (.map (some m)), sv s] ++ B ++ C).take (2 + p)) = [T.v (.map (some m)), sv s] ++ B.take p := fun B C p hp => by
    rw [List.append_assoc, Nat.add_comm 2 p]
    simp only [List.cons_append, List.nil_append, List.take_succ_cons]
    rw [List.take_append_of_le_length hp]
  have e2 : ∀ (B C : List T) (p : Nat), p ≤ B.length → (([T.v (.map (some m)), sv s] ++ B ++ C).drop (2 + p)) = B.drop p ++ C := fun B C p hp => by
    rw [List.append_assoc, Nat.add_comm 2 p]
    simp only [List.cons_append, List.nil_append, List.drop_succ_cons]
    rw [List.drop_append_of_le_length hp]
  rw [e1 _ _ _ (by omega), e2 _ _ _ hl]
  simp only [List.append_assoc]
theorem set_trace {m : Nat} {s : List UInt8} {o : List Desc} {A A' : Option Addr} {n c n' c' : Nat} (h : o.length = 19) : (wCells m s o A n c).take 59 ++ [.v (.slice A' n' c')] ++ (wCells m s o A n c).drop 60 = wCells m s o A' n' c' := by
  have hl : ([T.v (.map (some m)), sv s] ++ o.flatMap descCells).length = 59 := by rw [List.length_append, len_desc, h]; rfl
  unfold wCells
  rw [List.take_left' hl, List.drop_of_length_le (by rw [List.length_append, hl]; simp), List.append_nil]
theorem set_stdin {m : Nat} {s s' : List UInt8} {o : List Desc} {A : Option Addr} {n c : Nat} : (wCells m s o A n c).take 1 ++ [sv s'] ++ (wCells m s o A n c).drop 2 = wCells m s' o A n c := rfl
theorem ev_at {l : List Evt} {j : Nat} (h : j < l.length) (i : Nat) (hi : i < 3) : (l.flatMap evCells)[j * 3 + i]? = (evCells (l.getD j default))[i]? := flat_at ek h i hi
theorem evk_at {l : List Evt} {j : Nat} (h : j < l.length) : (l.flatMap evCells)[j * 3 + 0]? = some (.v (.int .i64 (l.getD j default).kind)) := ev_at h 0 (by decide)
theorem evn_at {l : List Evt} {j : Nat} (h : j < l.length) : (l.flatMap evCells)[j * 3 + 1]? = some (sv (l.getD j default).name) := ev_at h 1 (by decide)
theorem evt_at {l : List Evt} {j : Nat} (h : j < l.length) : (l.flatMap evCells)[j * 3 + 2]? = some (sv (l.getD j default).text) := ev_at h 2 (by decide)
theorem set_ev {l : List Evt} {j : Nat} (h : j < l.length) (t : List UInt8) : (l.flatMap evCells).set (j * 3 + 2) (sv t) = (l.set j { l.getD j default with text := t }).flatMap evCells := by
  have e := flat_set ek h 2 1 [sv t] { l.getD j default with text := t } (by decide) rfl
  rw [← e, List.set_eq_take_append_cons_drop, if_pos (by rw [len_ev]; omega), List.append_assoc]
  rfl
theorem clone_cells (s : List UInt8) : List.map u8 s ++ List.drop s.length (List.replicate s.length (List.map T.v [Value.int .u8 0])).flatten = List.map u8 s := by
  rw [List.drop_of_length_le (by simp), List.append_nil]
theorem files_good (l : List FileR) : ∀ e ∈ l.map fileKey, goodK .string e.1 = true := fun e he => by
  obtain ⟨f, _, rfl⟩ := List.mem_map.1 he
  rfl
end Go.Proofs.Ytmiggpnkicdijaa
