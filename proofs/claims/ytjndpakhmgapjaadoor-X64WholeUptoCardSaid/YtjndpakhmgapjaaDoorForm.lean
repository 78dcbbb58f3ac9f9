/-
  THE DOCUMENT's FORMS: the table, which instruction is of a form, the bytes of one.
-/
import Derived.Test.YtjndpakhmgapjaaDoorAsm
namespace Go.Proofs.YtjndpakhmgapjaaDoor
open Go Go.RowKit
set_option linter.unusedSimpArgs false
set_option linter.unusedVariables false
set_option linter.unnecessarySimpa false
structure FormF where
  kind : Int
  size : Int
  first : Int
  rex : Bool
  w : Int
  op : List Int
  mod : Int
  digit : Int
  d : Int
  s : Int
  cond : Int
  imm : Int
  deriving Inhabited, DecidableEq
def formCells (f : FormF) : List T := [.v (.int .i64 f.kind), .v (.int .i64 f.size), .v (.int .i64 f.first), .v (.bool f.rex), .v (.int .i64 f.w), .sl 1 (ints f.op), .v (.int .i64 f.mod), .v (.int .i64 f.digit), .v (.int .i64 f.d), .v (.int .i64 f.s), .v (.int .i64 f.cond), .v (.int .i64 f.imm)]
def formT (f : FormF) : T := .agg (formCells f)
def formsF : List FormF := [⟨1, 0, 0, true, 1, [137], 3, 0, 2, 1, 0, 0⟩,
  ⟨2, 0, 0, true, 1, [199], 3, 0, 2, 0, 0, 6⟩,
  ⟨2, 0, 0, true, 1, [184], -1, 0, 3, 0, 0, 7⟩,
  ⟨3, 8, 0, true, 1, [139], 2, 0, 1, 2, 0, 6⟩,
  ⟨3, 4, 0, true, 0, [139], 2, 0, 1, 2, 0, 6⟩,
  ⟨3, 1, 0, true, 1, [15, 182], 2, 0, 1, 2, 0, 6⟩,
  ⟨4, 8, 0, true, 1, [137], 2, 0, 2, 1, 0, 6⟩,
  ⟨4, 4, 0, true, 0, [137], 2, 0, 2, 1, 0, 6⟩,
  ⟨4, 1, 0, true, 0, [136], 2, 0, 2, 1, 0, 6⟩,
  ⟨5, 0, 0, true, 1, [141], 2, 0, 1, 2, 0, 6⟩,
  ⟨6, 0, 0, true, 1, [1], 3, 0, 2, 1, 0, 0⟩,
  ⟨7, 0, 0, true, 1, [9], 3, 0, 2, 1, 0, 0⟩,
  ⟨8, 0, 0, true, 1, [17], 3, 0, 2, 1, 0, 0⟩,
  ⟨9, 0, 0, true, 1, [25], 3, 0, 2, 1, 0, 0⟩,
  ⟨10, 0, 0, true, 1, [33], 3, 0, 2, 1, 0, 0⟩,
  ⟨11, 0, 0, true, 1, [41], 3, 0, 2, 1, 0, 0⟩,
  ⟨12, 0, 0, true, 1, [49], 3, 0, 2, 1, 0, 0⟩,
  ⟨13, 0, 0, true, 1, [57], 3, 0, 2, 1, 0, 0⟩,
  ⟨14, 0, 0, true, 1, [133], 3, 0, 2, 1, 0, 0⟩,
  ⟨15, 0, 0, true, 1, [129], 3, 0, 2, 0, 0, 6⟩,
  ⟨16, 0, 0, true, 1, [129], 3, 1, 2, 0, 0, 6⟩,
  ⟨17, 0, 0, true, 1, [129], 3, 4, 2, 0, 0, 6⟩,
  ⟨18, 0, 0, true, 1, [129], 3, 5, 2, 0, 0, 6⟩,
  ⟨19, 0, 0, true, 1, [129], 3, 6, 2, 0, 0, 6⟩,
  ⟨20, 0, 0, true, 1, [129], 3, 7, 2, 0, 0, 6⟩,
  ⟨21, 0, 0, true, 1, [15, 175], 3, 0, 1, 2, 0, 0⟩,
  ⟨22, 0, 0, true, 1, [247], 3, 4, 2, 0, 0, 0⟩,
  ⟨23, 0, 0, true, 1, [247], 3, 6, 2, 0, 0, 0⟩,
  ⟨24, 0, 0, true, 1, [247], 3, 3, 2, 0, 0, 0⟩,
  ⟨25, 0, 0, true, 1, [247], 3, 2, 2, 0, 0, 0⟩,
  ⟨26, 0, 0, true, 1, [211], 3, 4, 2, 0, 0, 0⟩,
  ⟨27, 0, 0, true, 1, [211], 3, 5, 2, 0, 0, 0⟩,
  ⟨28, 0, 0, true, 1, [211], 3, 7, 2, 0, 0, 0⟩,
  ⟨29, 0, 0, true, 1, [193], 3, 4, 2, 0, 0, 5⟩,
  ⟨30, 0, 0, true, 1, [193], 3, 5, 2, 0, 0, 5⟩,
  ⟨31, 0, 0, true, 1, [193], 3, 7, 2, 0, 0, 5⟩,
  ⟨32, 0, 0, true, 0, [15, 144], 3, 0, 2, 0, 4, 0⟩,
  ⟨33, 0, 0, true, 1, [15, 182], 3, 0, 1, 2, 0, 0⟩,
  ⟨34, 0, 0, true, 1, [15, 64], 3, 0, 1, 2, 4, 0⟩,
  ⟨35, 1, 0, false, 0, [235], -1, 0, 0, 0, 0, 5⟩,
  ⟨35, 4, 0, false, 0, [233], -1, 0, 0, 0, 0, 6⟩,
  ⟨36, 1, 0, false, 0, [112], -1, 0, 0, 0, 4, 5⟩,
  ⟨36, 4, 0, false, 0, [15, 128], -1, 0, 0, 0, 4, 6⟩,
  ⟨37, 0, 0, false, 0, [232], -1, 0, 0, 0, 0, 6⟩,
  ⟨38, 0, 0, true, 0, [255], 3, 2, 2, 0, 0, 0⟩,
  ⟨39, 0, 0, true, 0, [255], 3, 4, 2, 0, 0, 0⟩,
  ⟨40, 0, 0, false, 0, [195], -1, 0, 0, 0, 0, 0⟩,
  ⟨41, 0, 0, true, 0, [80], -1, 0, 3, 0, 0, 0⟩,
  ⟨42, 0, 0, true, 0, [88], -1, 0, 3, 0, 0, 0⟩,
  ⟨43, 0, 0, false, 0, [15, 5], -1, 0, 0, 0, 0, 0⟩,
  ⟨44, 0, 0, false, 0, [15, 11], -1, 0, 0, 0, 0, 0⟩,
  ⟨45, 0, 102, true, 1, [15, 110], 3, 0, 1, 2, 0, 0⟩,
  ⟨46, 0, 102, true, 1, [15, 126], 3, 0, 2, 1, 0, 0⟩,
  ⟨47, 0, 242, true, 0, [15, 88], 3, 0, 1, 2, 0, 0⟩,
  ⟨48, 0, 242, true, 0, [15, 89], 3, 0, 1, 2, 0, 0⟩,
  ⟨49, 0, 242, true, 0, [15, 92], 3, 0, 1, 2, 0, 0⟩,
  ⟨50, 0, 242, true, 0, [15, 94], 3, 0, 1, 2, 0, 0⟩,
  ⟨51, 0, 102, true, 0, [15, 46], 3, 0, 1, 2, 0, 0⟩,
  ⟨52, 0, 242, true, 1, [15, 42], 3, 0, 1, 2, 0, 0⟩]
def fieldR (p n : Int) : Bool := (decide (p = 0) && decide (n = 0)) || ((!decide (p = 0) && decide (0 ≤ n)) && decide (n ≤ 15))
def numberR (f : FormF) (n : Int) : Bool :=
  if f.imm = 0 then decide (n = 0)
  else if f.imm = 5 then (if (decide (f.kind = 35) || decide (f.kind = 36)) = true then inF n (-128) 127 else inF n 0 63)
  else if f.imm = 6 then smallF n else !smallF n
def fitsF (f : FormF) (i : Ins) : Bool := ((((decide (f.kind = i.kind) && decide (f.size = i.size)) && fieldR f.d i.d) && fieldR f.s i.s) && fieldR f.cond i.cond) && numberR f i.imm
def atF (f : FormF) (i : Ins) (p : Int) : Int := if f.d = p then i.d else if f.s = p then i.s else 0
def upF (f : FormF) (i : Ins) : Int := atF f i 1
def baseF (f : FormF) (i : Ins) : Int := atF f i 2 + atF f i 3
def opX (f : FormF) (i : Ins) (k : Nat) : Int := f.op.getD k 0 + (if (decide ((k : Int) = (f.op.length : Int) - 1) && decide (f.cond = 4)) = true then i.cond else 0)
def opY (f : FormF) (i : Ins) (k : Nat) : Int := opX f i k + (if (decide ((k : Int) = (f.op.length : Int) - 1) && decide (f.d = 3)) = true then i.d % 8 else 0)
def r0 (f : FormF) : List UInt8 := if 0 < f.first then [byteOf f.first] else []
def r1 (f : FormF) (i : Ins) : List UInt8 := r0 f ++ (if f.rex = true then [byteOf (64 + 8 * f.w + 4 * (upF f i / 8) + baseF f i / 8)] else [])
def r2 (f : FormF) (i : Ins) (j : Nat) : List UInt8 := r1 f i ++ (List.range j).map (fun k => byteOf (opY f i k))
def regX (f : FormF) (i : Ins) : Int := if (!decide (f.d = 1) && !decide (f.s = 1)) = true then f.digit else upF f i % 8
def modB (f : FormF) (i : Ins) : List UInt8 := byteOf (64 * f.mod + 8 * regX f i + baseF f i % 8) :: (if (decide (f.mod = 2) && decide (baseF f i % 8 = 4)) = true then [36] else [])
def r3 (f : FormF) (i : Ins) : List UInt8 := r2 f i f.op.length ++ (if 0 ≤ f.mod then modB f i else [])
def sizeR (k : Int) : Nat := if k = 5 then 1 else if k = 6 then 4 else if k = 7 then 8 else 0
def r4 (f : FormF) (i : Ins) (j : Nat) : List UInt8 := r3 f i ++ leBytes j (i.imm % 18446744073709551616)
def bytesF (f : FormF) (i : Ins) : List UInt8 := r4 f i (sizeR f.imm)
structure FormOk (f : FormF) : Prop where
  w : 0 ≤ f.w ∧ f.w ≤ 1
  first : 0 ≤ f.first ∧ f.first ≤ 255
  op : ∀ x ∈ f.op, 0 ≤ x ∧ x ≤ 255
  len : f.op.length ≤ 2
  mod : -1 ≤ f.mod ∧ f.mod ≤ 3
  digit : 0 ≤ f.digit ∧ f.digit ≤ 7
theorem forms_ok : ∀ f ∈ formsF, FormOk f := by
  have h : formsF.all (fun f => decide (0 ≤ f.w ∧ f.w ≤ 1) && decide (0 ≤ f.first ∧ f.first ≤ 255) && f.op.all (fun x => decide (0 ≤ x ∧ x ≤ 255)) && decide (f.op.length ≤ 2) && decide (-1 ≤ f.mod ∧ f.mod ≤ 3) && decide (0 ≤ f.digit ∧ f.digit ≤ 7)) = true := by decide
  intro f hf
  have := List.all_eq_true.1 h f hf
  simp only [Bool.and_eq_true, decide_eq_true_eq, List.all_eq_true] at this
  obtain ⟨⟨⟨⟨⟨a, b⟩, c⟩, d⟩, e⟩, g⟩ := this
  exact ⟨a, b, c, d, e, g⟩
theorem forms_len : formsF.length = 59 := rfl
theorem field_range {p n : Int} (h : fieldR p n = true) : 0 ≤ n ∧ n ≤ 15 := by
  unfold fieldR at h
  simp only [Bool.or_eq_true, Bool.and_eq_true, Bool.not_eq_true', decide_eq_true_eq, decide_eq_false_iff_not] at h
  omega
theorem fits_range {f : FormF} {i : Ins} (h : fitsF f i = true) : (0 ≤ i.d ∧ i.d ≤ 15) ∧ (0 ≤ i.s ∧ i.s ≤ 15) ∧ (0 ≤ i.cond ∧ i.cond ≤ 15) := by
  unfold fitsF at h
  simp only [Bool.and_eq_true] at h
  exact ⟨field_range h.1.1.1.2, field_range h.1.1.2, field_range h.1.2⟩
theorem at_range {f : FormF} {i : Ins} (hd : 0 ≤ i.d ∧ i.d ≤ 15) (hs : 0 ≤ i.s ∧ i.s ≤ 15) (p : Int) : 0 ≤ atF f i p ∧ atF f i p ≤ 15 := by
  unfold atF
  split
  · exact hd
  · split
    · exact hs
    · omega
theorem opX_range {f : FormF} {i : Ins} (hf : FormOk f) (hc : 0 ≤ i.cond ∧ i.cond ≤ 15) {k : Nat} (hk : k < f.op.length) : 0 ≤ f.op.getD k 0 ∧ f.op.getD k 0 ≤ 255 ∧ 0 ≤ opX f i k ∧ opX f i k ≤ 270 := by
  have := hf.op (f.op.getD k 0) (by simp [hk])
  unfold opX
  split <;> omega
theorem r2_step (f : FormF) (i : Ins) (j : Nat) : (r2 f i (j + 1)).map u8 = (r2 f i j).map u8 ++ [u8 (byteOf (opY f i j))] ∧ (r2 f i (j + 1)).length = (r2 f i j).length + 1 := by
  simp [r2, List.range_succ, Nat.add_assoc]
theorem r4_step (f : FormF) (i : Ins) (j : Nat) : (r4 f i (j + 1)).map u8 = (r4 f i j).map u8 ++ [u8 (byteOf (i.imm % 18446744073709551616 / 256 ^ j))] ∧ (r4 f i (j + 1)).length = (r4 f i j).length + 1 := by
  constructor
  · rw [r4, leBytes_succ, ← List.append_assoc, List.map_append, ← r4]
    rfl
  · simp [r4, leBytes_length, Nat.add_assoc]
theorem u8w (p : Int) : [u8 (byteOf p)] = [T.v (.int .u8 (IntKind.u8.wrap p))] := by rw [byteOf_wrap]
theorem r0_yes {f : FormF} (h : 0 < f.first) : (r0 f).length = 0 + 1 ∧ (r0 f).map u8 = [] ++ [T.v (.int .u8 (IntKind.u8.wrap f.first))] := by
  rw [r0, if_pos h]
  exact ⟨rfl, u8w _⟩
theorem r0_no {f : FormF} (h : ¬ 0 < f.first) : r0 f = [] := by rw [r0, if_neg h]
theorem r1_yes {f : FormF} {i : Ins} (h : f.rex = true) : (r1 f i).length = (r0 f).length + 1 ∧ (r1 f i).map u8 = (r0 f).map u8 ++ [T.v (.int .u8 (IntKind.u8.wrap (64 + 8 * f.w + 4 * (upF f i / 8) + baseF f i / 8)))] := by
  rw [r1, if_pos h, List.length_append, List.map_append]
  refine ⟨rfl, ?_⟩
  rw [← u8w]
  rfl
theorem r1_no {f : FormF} {i : Ins} (h : ¬ f.rex = true) : r1 f i = r0 f := by rw [r1, if_neg h, List.append_nil]
theorem r2_next (f : FormF) (i : Ins) (j : Nat) : (r2 f i (j + 1)).length = (r2 f i j).length + 1 ∧ (r2 f i (j + 1)).map u8 = (r2 f i j).map u8 ++ [T.v (.int .u8 (IntKind.u8.wrap (opY f i j)))] := by
  rw [← u8w]
  exact ⟨(r2_step f i j).2, (r2_step f i j).1⟩
theorem r2_zero (f : FormF) (i : Ins) : r2 f i 0 = r1 f i := by simp [r2]
theorem r3_no {f : FormF} {i : Ins} (h : ¬ 0 ≤ f.mod) : r3 f i = r2 f i f.op.length := by rw [r3, if_neg h, List.append_nil]
theorem r3_yes {f : FormF} {i : Ins} (h : 0 ≤ f.mod) (h2 : (decide (f.mod = 2) && decide (baseF f i % 8 = 4)) = true) : (r3 f i).length = (r2 f i f.op.length).length + 1 + 1 ∧ (r3 f i).map u8 = (r2 f i f.op.length).map u8 ++ [T.v (.int .u8 (IntKind.u8.wrap (64 * f.mod + 8 * regX f i + baseF f i % 8)))] ++ [T.v (.int .u8 36)] := by
  rw [r3, if_pos h, modB, if_pos h2, List.length_append, List.map_append, ← u8w, List.append_assoc]
  exact ⟨rfl, rfl⟩
theorem r3_one {f : FormF} {i : Ins} (h : 0 ≤ f.mod) (h2 : ¬ (decide (f.mod = 2) && decide (baseF f i % 8 = 4)) = true) : (r3 f i).length = (r2 f i f.op.length).length + 1 ∧ (r3 f i).map u8 = (r2 f i f.op.length).map u8 ++ [T.v (.int .u8 (IntKind.u8.wrap (64 * f.mod + 8 * regX f i + baseF f i % 8)))] := by
  rw [r3, if_pos h, modB, if_neg h2, List.length_append, List.map_append, ← u8w]
  exact ⟨rfl, rfl⟩
theorem r4_zero (f : FormF) (i : Ins) : r4 f i 0 = r3 f i := by rw [r4, leBytes, List.append_nil]
theorem byteOf_mod (p : Int) : byteOf (p % 256) = byteOf p := by
  unfold byteOf
  rw [Int.emod_emod_of_dvd _ (Int.dvd_refl 256)]
theorem r4_next (f : FormF) (i : Ins) (j : Nat) : (r4 f i (j + 1)).length = (r4 f i j).length + 1 ∧ (r4 f i (j + 1)).map u8 = (r4 f i j).map u8 ++ [T.v (.int .u8 (IntKind.u8.wrap (i.imm % 18446744073709551616 / 256 ^ j % 256)))] := by
  rw [← u8w, byteOf_mod]
  exact ⟨(r4_step f i j).2, (r4_step f i j).1⟩
theorem imm_step (n : Int) (j : Nat) : 0 ≤ n % 18446744073709551616 / 256 ^ j ∧ n % 18446744073709551616 / 256 ^ j ≤ 18446744073709551615 := div_range _ j (by omega) (by omega)
theorem sizeR_le (k : Int) : sizeR k ≤ 8 := by
  unfold sizeR
  repeat' split
  all_goals decide
theorem bits_len (f : FormF) (i : Ins) : (r0 f).length ≤ 1 ∧ (r1 f i).length ≤ 2 ∧ (∀ j, (r2 f i j).length ≤ 2 + j) ∧ (r3 f i).length ≤ f.op.length + 4 ∧ ∀ j, (r4 f i j).length ≤ f.op.length + 4 + j := by
  have h0 : (r0 f).length ≤ 1 := by unfold r0; split <;> simp
  have h1 : (r1 f i).length ≤ 2 := by
    unfold r1
    rw [List.length_append]
    split <;> simp <;> omega
  have h2 : ∀ j, (r2 f i j).length ≤ 2 + j := fun j => by
    unfold r2
    rw [List.length_append, List.length_map, List.length_range]
    omega
  have h3 : (r3 f i).length ≤ f.op.length + 4 := by
    have := h2 f.op.length
    unfold r3 modB
    rw [List.length_append]
    split
    · split <;> simp <;> omega
    · simp; omega
  refine ⟨h0, h1, h2, h3, fun j => ?_⟩
  rw [r4, List.length_append, leBytes_length]
  omega
theorem form_get {l : List FormF} {j : Nat} (h : j < l.length) : ((l.flatMap formCells).drop (j * 12)).take 12 = formCells (l.getD j default) ∧ (formCells (l.getD j default)).length = 12 := flat_get (f := formCells) (k := 12) (fun _ => rfl) h
theorem len_forms {l : List FormF} : (l.flatMap formCells).length = l.length * 12 := len_flat (f := formCells) (k := 12) (fun _ => rfl) l
theorem form_len (f : FormF) : (formCells f).length = 12 := rfl
def refF (i : Ins) : Option FormF := formsF.find? (fun f => fitsF f i)
def refB (i : Ins) : List UInt8 := match refF i with
  | some f => bytesF f i
  | none => []
def refE (i : Ins) : Int := if (refF i).isSome = true then 0 else 200
end Go.Proofs.YtjndpakhmgapjaaDoor
