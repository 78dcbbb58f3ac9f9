/-
  WHAT MAY BE is of a form; the document's answer for one instruction is the code's. Printed by program.
-/
import Derived.Test.YtjndpakhmgapjaaDoorEach
namespace Go.Proofs.YtjndpakhmgapjaaDoor
open Go Go.RowKit
set_option linter.unusedSimpArgs false
set_option linter.unusedVariables false
set_option linter.unnecessarySimpa false
theorem valid_parts {i : Ins} (h : validF i = true) : ((1 ≤ i.kind ∧ i.kind ≤ 52) ∧ (0 ≤ i.d ∧ i.d ≤ 15) ∧ (0 ≤ i.s ∧ i.s ≤ 15) ∧ (0 ≤ i.cond ∧ i.cond ≤ 15)) ∧ noneF (fieldsF i.kind).1 1 i.d = true ∧ noneF (fieldsF i.kind).1 2 i.s = true ∧ noneF (fieldsF i.kind).1 4 i.imm = true ∧ noneF (fieldsF i.kind).1 8 i.cond = true ∧ noneF (fieldsF i.kind).1 16 i.size = true ∧ sizedF i = true := by
  refine ⟨validF_regs h, ?_⟩
  unfold validF at h
  split at h
  · cases h
  · simp only [Bool.and_eq_true] at h
    exact ⟨h.1.1.1.1.1, h.1.1.1.1.2, h.1.1.1.2, h.1.1.2, h.1.2, h.2⟩
theorem none_off {f b n : Int} (hb : bitsOf .and .i64 f b = 0) (h : noneF f b n = true) : n = 0 := by
  rw [noneF, decide_eq_true hb] at h
  simpa using h
theorem fld_some {p n : Int} (hp : ¬ p = 0) (h : 0 ≤ n ∧ n ≤ 15) : fieldR p n = true := by
  rw [fieldR, decide_eq_false hp, decide_eq_true h.1, decide_eq_true h.2]
  rfl
theorem fit_mk {f : FormF} {i : Ins} (h1 : f.kind = i.kind) (h2 : f.size = i.size) (h3 : fieldR f.d i.d = true) (h4 : fieldR f.s i.s = true) (h5 : fieldR f.cond i.cond = true) (h6 : numberR f i.imm = true) : fitsF f i = true := by
  rw [fitsF, decide_eq_true h1, decide_eq_true h2, h3, h4, h5, h6]
  rfl
theorem kind1 {d s c z n : Int} (h : validF ⟨1, d, s, c, z, n⟩ = true) : ∃ f ∈ formsF, fitsF f ⟨1, d, s, c, z, n⟩ = true := by
  obtain ⟨⟨_, hd, hs, hc⟩, h1, h2, h4, h8, h16, hz⟩ := valid_parts h
  obtain rfl : n = 0 := none_off (by dsimp only; decide) h4
  obtain rfl : c = 0 := none_off (by dsimp only; decide) h8
  obtain rfl : z = 0 := none_off (by dsimp only; decide) h16
  exact ⟨_, List.mem_of_getElem? (show formsF[0]? = some ⟨1, 0, 0, true, 1, [137], 3, 0, 2, 1, 0, 0⟩ from rfl), fit_mk rfl rfl (fld_some (by decide) hd) (fld_some (by decide) hs) rfl (rfl)⟩
theorem kind2 {d s c z n : Int} (h : validF ⟨2, d, s, c, z, n⟩ = true) : ∃ f ∈ formsF, fitsF f ⟨2, d, s, c, z, n⟩ = true := by
  obtain ⟨⟨_, hd, hs, hc⟩, h1, h2, h4, h8, h16, hz⟩ := valid_parts h
  obtain rfl : s = 0 := none_off (by dsimp only; decide) h2
  obtain rfl : c = 0 := none_off (by dsimp only; decide) h8
  obtain rfl : z = 0 := none_off (by dsimp only; decide) h16
  by_cases hn : smallF n = true
  · exact ⟨_, List.mem_of_getElem? (show formsF[1]? = some ⟨2, 0, 0, true, 1, [199], 3, 0, 2, 0, 0, 6⟩ from rfl), fit_mk rfl rfl (fld_some (by decide) hd) rfl rfl (hn)⟩
  · exact ⟨_, List.mem_of_getElem? (show formsF[2]? = some ⟨2, 0, 0, true, 1, [184], -1, 0, 3, 0, 0, 7⟩ from rfl), fit_mk rfl rfl (fld_some (by decide) hd) rfl rfl ((show (!smallF n) = true by simpa using hn))⟩
theorem kind3 {d s c z n : Int} (h : validF ⟨3, d, s, c, z, n⟩ = true) : ∃ f ∈ formsF, fitsF f ⟨3, d, s, c, z, n⟩ = true := by
  obtain ⟨⟨_, hd, hs, hc⟩, h1, h2, h4, h8, h16, hz⟩ := valid_parts h
  obtain rfl : c = 0 := none_off (by dsimp only; decide) h8
  rw [sizedF, if_pos (by dsimp only; decide), Bool.and_eq_true, Bool.or_eq_true, Bool.or_eq_true] at hz
  obtain ⟨hz, hn⟩ := hz
  rcases hz with (hz | hz) | hz
  · obtain rfl := of_decide_eq_true hz
    exact ⟨_, List.mem_of_getElem? (show formsF[3]? = some ⟨3, 8, 0, true, 1, [139], 2, 0, 1, 2, 0, 6⟩ from rfl), fit_mk rfl rfl (fld_some (by decide) hd) (fld_some (by decide) hs) rfl (hn)⟩
  · obtain rfl := of_decide_eq_true hz
    exact ⟨_, List.mem_of_getElem? (show formsF[4]? = some ⟨3, 4, 0, true, 0, [139], 2, 0, 1, 2, 0, 6⟩ from rfl), fit_mk rfl rfl (fld_some (by decide) hd) (fld_some (by decide) hs) rfl (hn)⟩
  · obtain rfl := of_decide_eq_true hz
    exact ⟨_, List.mem_of_getElem? (show formsF[5]? = some ⟨3, 1, 0, true, 1, [15, 182], 2, 0, 1, 2, 0, 6⟩ from rfl), fit_mk rfl rfl (fld_some (by decide) hd) (fld_some (by decide) hs) rfl (hn)⟩
theorem kind4 {d s c z n : Int} (h : validF ⟨4, d, s, c, z, n⟩ = true) : ∃ f ∈ formsF, fitsF f ⟨4, d, s, c, z, n⟩ = true := by
  obtain ⟨⟨_, hd, hs, hc⟩, h1, h2, h4, h8, h16, hz⟩ := valid_parts h
  obtain rfl : c = 0 := none_off (by dsimp only; decide) h8
  rw [sizedF, if_pos (by dsimp only; decide), Bool.and_eq_true, Bool.or_eq_true, Bool.or_eq_true] at hz
  obtain ⟨hz, hn⟩ := hz
  rcases hz with (hz | hz) | hz
  · obtain rfl := of_decide_eq_true hz
    exact ⟨_, List.mem_of_getElem? (show formsF[6]? = some ⟨4, 8, 0, true, 1, [137], 2, 0, 2, 1, 0, 6⟩ from rfl), fit_mk rfl rfl (fld_some (by decide) hd) (fld_some (by decide) hs) rfl (hn)⟩
  · obtain rfl := of_decide_eq_true hz
    exact ⟨_, List.mem_of_getElem? (show formsF[7]? = some ⟨4, 4, 0, true, 0, [137], 2, 0, 2, 1, 0, 6⟩ from rfl), fit_mk rfl rfl (fld_some (by decide) hd) (fld_some (by decide) hs) rfl (hn)⟩
  · obtain rfl := of_decide_eq_true hz
    exact ⟨_, List.mem_of_getElem? (show formsF[8]? = some ⟨4, 1, 0, true, 0, [136], 2, 0, 2, 1, 0, 6⟩ from rfl), fit_mk rfl rfl (fld_some (by decide) hd) (fld_some (by decide) hs) rfl (hn)⟩
theorem kind5 {d s c z n : Int} (h : validF ⟨5, d, s, c, z, n⟩ = true) : ∃ f ∈ formsF, fitsF f ⟨5, d, s, c, z, n⟩ = true := by
  obtain ⟨⟨_, hd, hs, hc⟩, h1, h2, h4, h8, h16, hz⟩ := valid_parts h
  obtain rfl : c = 0 := none_off (by dsimp only; decide) h8
  obtain rfl : z = 0 := none_off (by dsimp only; decide) h16
  rw [sizedF, if_neg (by dsimp only; decide), if_neg (by dsimp only; decide), if_neg (by dsimp only; decide)] at hz
  have hn : smallF n = true := hz
  exact ⟨_, List.mem_of_getElem? (show formsF[9]? = some ⟨5, 0, 0, true, 1, [141], 2, 0, 1, 2, 0, 6⟩ from rfl), fit_mk rfl rfl (fld_some (by decide) hd) (fld_some (by decide) hs) rfl (hn)⟩
theorem kind6 {d s c z n : Int} (h : validF ⟨6, d, s, c, z, n⟩ = true) : ∃ f ∈ formsF, fitsF f ⟨6, d, s, c, z, n⟩ = true := by
  obtain ⟨⟨_, hd, hs, hc⟩, h1, h2, h4, h8, h16, hz⟩ := valid_parts h
  obtain rfl : n = 0 := none_off (by dsimp only; decide) h4
  obtain rfl : c = 0 := none_off (by dsimp only; decide) h8
  obtain rfl : z = 0 := none_off (by dsimp only; decide) h16
  exact ⟨_, List.mem_of_getElem? (show formsF[10]? = some ⟨6, 0, 0, true, 1, [1], 3, 0, 2, 1, 0, 0⟩ from rfl), fit_mk rfl rfl (fld_some (by decide) hd) (fld_some (by decide) hs) rfl (rfl)⟩
theorem kind7 {d s c z n : Int} (h : validF ⟨7, d, s, c, z, n⟩ = true) : ∃ f ∈ formsF, fitsF f ⟨7, d, s, c, z, n⟩ = true := by
  obtain ⟨⟨_, hd, hs, hc⟩, h1, h2, h4, h8, h16, hz⟩ := valid_parts h
  obtain rfl : n = 0 := none_off (by dsimp only; decide) h4
  obtain rfl : c = 0 := none_off (by dsimp only; decide) h8
  obtain rfl : z = 0 := none_off (by dsimp only; decide) h16
  exact ⟨_, List.mem_of_getElem? (show formsF[11]? = some ⟨7, 0, 0, true, 1, [9], 3, 0, 2, 1, 0, 0⟩ from rfl), fit_mk rfl rfl (fld_some (by decide) hd) (fld_some (by decide) hs) rfl (rfl)⟩
theorem kind8 {d s c z n : Int} (h : validF ⟨8, d, s, c, z, n⟩ = true) : ∃ f ∈ formsF, fitsF f ⟨8, d, s, c, z, n⟩ = true := by
  obtain ⟨⟨_, hd, hs, hc⟩, h1, h2, h4, h8, h16, hz⟩ := valid_parts h
  obtain rfl : n = 0 := none_off (by dsimp only; decide) h4
  obtain rfl : c = 0 := none_off (by dsimp only; decide) h8
  obtain rfl : z = 0 := none_off (by dsimp only; decide) h16
  exact ⟨_, List.mem_of_getElem? (show formsF[12]? = some ⟨8, 0, 0, true, 1, [17], 3, 0, 2, 1, 0, 0⟩ from rfl), fit_mk rfl rfl (fld_some (by decide) hd) (fld_some (by decide) hs) rfl (rfl)⟩
theorem kind9 {d s c z n : Int} (h : validF ⟨9, d, s, c, z, n⟩ = true) : ∃ f ∈ formsF, fitsF f ⟨9, d, s, c, z, n⟩ = true := by
  obtain ⟨⟨_, hd, hs, hc⟩, h1, h2, h4, h8, h16, hz⟩ := valid_parts h
  obtain rfl : n = 0 := none_off (by dsimp only; decide) h4
  obtain rfl : c = 0 := none_off (by dsimp only; decide) h8
  obtain rfl : z = 0 := none_off (by dsimp only; decide) h16
  exact ⟨_, List.mem_of_getElem? (show formsF[13]? = some ⟨9, 0, 0, true, 1, [25], 3, 0, 2, 1, 0, 0⟩ from rfl), fit_mk rfl rfl (fld_some (by decide) hd) (fld_some (by decide) hs) rfl (rfl)⟩
theorem kind10 {d s c z n : Int} (h : validF ⟨10, d, s, c, z, n⟩ = true) : ∃ f ∈ formsF, fitsF f ⟨10, d, s, c, z, n⟩ = true := by
  obtain ⟨⟨_, hd, hs, hc⟩, h1, h2, h4, h8, h16, hz⟩ := valid_parts h
  obtain rfl : n = 0 := none_off (by dsimp only; decide) h4
  obtain rfl : c = 0 := none_off (by dsimp only; decide) h8
  obtain rfl : z = 0 := none_off (by dsimp only; decide) h16
  exact ⟨_, List.mem_of_getElem? (show formsF[14]? = some ⟨10, 0, 0, true, 1, [33], 3, 0, 2, 1, 0, 0⟩ from rfl), fit_mk rfl rfl (fld_some (by decide) hd) (fld_some (by decide) hs) rfl (rfl)⟩
theorem kind11 {d s c z n : Int} (h : validF ⟨11, d, s, c, z, n⟩ = true) : ∃ f ∈ formsF, fitsF f ⟨11, d, s, c, z, n⟩ = true := by
  obtain ⟨⟨_, hd, hs, hc⟩, h1, h2, h4, h8, h16, hz⟩ := valid_parts h
  obtain rfl : n = 0 := none_off (by dsimp only; decide) h4
  obtain rfl : c = 0 := none_off (by dsimp only; decide) h8
  obtain rfl : z = 0 := none_off (by dsimp only; decide) h16
  exact ⟨_, List.mem_of_getElem? (show formsF[15]? = some ⟨11, 0, 0, true, 1, [41], 3, 0, 2, 1, 0, 0⟩ from rfl), fit_mk rfl rfl (fld_some (by decide) hd) (fld_some (by decide) hs) rfl (rfl)⟩
theorem kind12 {d s c z n : Int} (h : validF ⟨12, d, s, c, z, n⟩ = true) : ∃ f ∈ formsF, fitsF f ⟨12, d, s, c, z, n⟩ = true := by
  obtain ⟨⟨_, hd, hs, hc⟩, h1, h2, h4, h8, h16, hz⟩ := valid_parts h
  obtain rfl : n = 0 := none_off (by dsimp only; decide) h4
  obtain rfl : c = 0 := none_off (by dsimp only; decide) h8
  obtain rfl : z = 0 := none_off (by dsimp only; decide) h16
  exact ⟨_, List.mem_of_getElem? (show formsF[16]? = some ⟨12, 0, 0, true, 1, [49], 3, 0, 2, 1, 0, 0⟩ from rfl), fit_mk rfl rfl (fld_some (by decide) hd) (fld_some (by decide) hs) rfl (rfl)⟩
theorem kind13 {d s c z n : Int} (h : validF ⟨13, d, s, c, z, n⟩ = true) : ∃ f ∈ formsF, fitsF f ⟨13, d, s, c, z, n⟩ = true := by
  obtain ⟨⟨_, hd, hs, hc⟩, h1, h2, h4, h8, h16, hz⟩ := valid_parts h
  obtain rfl : n = 0 := none_off (by dsimp only; decide) h4
  obtain rfl : c = 0 := none_off (by dsimp only; decide) h8
  obtain rfl : z = 0 := none_off (by dsimp only; decide) h16
  exact ⟨_, List.mem_of_getElem? (show formsF[17]? = some ⟨13, 0, 0, true, 1, [57], 3, 0, 2, 1, 0, 0⟩ from rfl), fit_mk rfl rfl (fld_some (by decide) hd) (fld_some (by decide) hs) rfl (rfl)⟩
theorem kind14 {d s c z n : Int} (h : validF ⟨14, d, s, c, z, n⟩ = true) : ∃ f ∈ formsF, fitsF f ⟨14, d, s, c, z, n⟩ = true := by
  obtain ⟨⟨_, hd, hs, hc⟩, h1, h2, h4, h8, h16, hz⟩ := valid_parts h
  obtain rfl : n = 0 := none_off (by dsimp only; decide) h4
  obtain rfl : c = 0 := none_off (by dsimp only; decide) h8
  obtain rfl : z = 0 := none_off (by dsimp only; decide) h16
  exact ⟨_, List.mem_of_getElem? (show formsF[18]? = some ⟨14, 0, 0, true, 1, [133], 3, 0, 2, 1, 0, 0⟩ from rfl), fit_mk rfl rfl (fld_some (by decide) hd) (fld_some (by decide) hs) rfl (rfl)⟩
theorem kind15 {d s c z n : Int} (h : validF ⟨15, d, s, c, z, n⟩ = true) : ∃ f ∈ formsF, fitsF f ⟨15, d, s, c, z, n⟩ = true := by
  obtain ⟨⟨_, hd, hs, hc⟩, h1, h2, h4, h8, h16, hz⟩ := valid_parts h
  obtain rfl : s = 0 := none_off (by dsimp only; decide) h2
  obtain rfl : c = 0 := none_off (by dsimp only; decide) h8
  obtain rfl : z = 0 := none_off (by dsimp only; decide) h16
  rw [sizedF, if_neg (by dsimp only; decide), if_neg (by dsimp only; decide), if_neg (by dsimp only; decide)] at hz
  have hn : smallF n = true := hz
  exact ⟨_, List.mem_of_getElem? (show formsF[19]? = some ⟨15, 0, 0, true, 1, [129], 3, 0, 2, 0, 0, 6⟩ from rfl), fit_mk rfl rfl (fld_some (by decide) hd) rfl rfl (hn)⟩
theorem kind16 {d s c z n : Int} (h : validF ⟨16, d, s, c, z, n⟩ = true) : ∃ f ∈ formsF, fitsF f ⟨16, d, s, c, z, n⟩ = true := by
  obtain ⟨⟨_, hd, hs, hc⟩, h1, h2, h4, h8, h16, hz⟩ := valid_parts h
  obtain rfl : s = 0 := none_off (by dsimp only; decide) h2
  obtain rfl : c = 0 := none_off (by dsimp only; decide) h8
  obtain rfl : z = 0 := none_off (by dsimp only; decide) h16
  rw [sizedF, if_neg (by dsimp only; decide), if_neg (by dsimp only; decide), if_neg (by dsimp only; decide)] at hz
  have hn : smallF n = true := hz
  exact ⟨_, List.mem_of_getElem? (show formsF[20]? = some ⟨16, 0, 0, true, 1, [129], 3, 1, 2, 0, 0, 6⟩ from rfl), fit_mk rfl rfl (fld_some (by decide) hd) rfl rfl (hn)⟩
theorem kind17 {d s c z n : Int} (h : validF ⟨17, d, s, c, z, n⟩ = true) : ∃ f ∈ formsF, fitsF f ⟨17, d, s, c, z, n⟩ = true := by
  obtain ⟨⟨_, hd, hs, hc⟩, h1, h2, h4, h8, h16, hz⟩ := valid_parts h
  obtain rfl : s = 0 := none_off (by dsimp only; decide) h2
  obtain rfl : c = 0 := none_off (by dsimp only; decide) h8
  obtain rfl : z = 0 := none_off (by dsimp only; decide) h16
  rw [sizedF, if_neg (by dsimp only; decide), if_neg (by dsimp only; decide), if_neg (by dsimp only; decide)] at hz
  have hn : smallF n = true := hz
  exact ⟨_, List.mem_of_getElem? (show formsF[21]? = some ⟨17, 0, 0, true, 1, [129], 3, 4, 2, 0, 0, 6⟩ from rfl), fit_mk rfl rfl (fld_some (by decide) hd) rfl rfl (hn)⟩
theorem kind18 {d s c z n : Int} (h : validF ⟨18, d, s, c, z, n⟩ = true) : ∃ f ∈ formsF, fitsF f ⟨18, d, s, c, z, n⟩ = true := by
  obtain ⟨⟨_, hd, hs, hc⟩, h1, h2, h4, h8, h16, hz⟩ := valid_parts h
  obtain rfl : s = 0 := none_off (by dsimp only; decide) h2
  obtain rfl : c = 0 := none_off (by dsimp only; decide) h8
  obtain rfl : z = 0 := none_off (by dsimp only; decide) h16
  rw [sizedF, if_neg (by dsimp only; decide), if_neg (by dsimp only; decide), if_neg (by dsimp only; decide)] at hz
  have hn : smallF n = true := hz
  exact ⟨_, List.mem_of_getElem? (show formsF[22]? = some ⟨18, 0, 0, true, 1, [129], 3, 5, 2, 0, 0, 6⟩ from rfl), fit_mk rfl rfl (fld_some (by decide) hd) rfl rfl (hn)⟩
theorem kind19 {d s c z n : Int} (h : validF ⟨19, d, s, c, z, n⟩ = true) : ∃ f ∈ formsF, fitsF f ⟨19, d, s, c, z, n⟩ = true := by
  obtain ⟨⟨_, hd, hs, hc⟩, h1, h2, h4, h8, h16, hz⟩ := valid_parts h
  obtain rfl : s = 0 := none_off (by dsimp only; decide) h2
  obtain rfl : c = 0 := none_off (by dsimp only; decide) h8
  obtain rfl : z = 0 := none_off (by dsimp only; decide) h16
  rw [sizedF, if_neg (by dsimp only; decide), if_neg (by dsimp only; decide), if_neg (by dsimp only; decide)] at hz
  have hn : smallF n = true := hz
  exact ⟨_, List.mem_of_getElem? (show formsF[23]? = some ⟨19, 0, 0, true, 1, [129], 3, 6, 2, 0, 0, 6⟩ from rfl), fit_mk rfl rfl (fld_some (by decide) hd) rfl rfl (hn)⟩
theorem kind20 {d s c z n : Int} (h : validF ⟨20, d, s, c, z, n⟩ = true) : ∃ f ∈ formsF, fitsF f ⟨20, d, s, c, z, n⟩ = true := by
  obtain ⟨⟨_, hd, hs, hc⟩, h1, h2, h4, h8, h16, hz⟩ := valid_parts h
  obtain rfl : s = 0 := none_off (by dsimp only; decide) h2
  obtain rfl : c = 0 := none_off (by dsimp only; decide) h8
  obtain rfl : z = 0 := none_off (by dsimp only; decide) h16
  rw [sizedF, if_neg (by dsimp only; decide), if_neg (by dsimp only; decide), if_neg (by dsimp only; decide)] at hz
  have hn : smallF n = true := hz
  exact ⟨_, List.mem_of_getElem? (show formsF[24]? = some ⟨20, 0, 0, true, 1, [129], 3, 7, 2, 0, 0, 6⟩ from rfl), fit_mk rfl rfl (fld_some (by decide) hd) rfl rfl (hn)⟩
theorem kind21 {d s c z n : Int} (h : validF ⟨21, d, s, c, z, n⟩ = true) : ∃ f ∈ formsF, fitsF f ⟨21, d, s, c, z, n⟩ = true := by
  obtain ⟨⟨_, hd, hs, hc⟩, h1, h2, h4, h8, h16, hz⟩ := valid_parts h
  obtain rfl : n = 0 := none_off (by dsimp only; decide) h4
  obtain rfl : c = 0 := none_off (by dsimp only; decide) h8
  obtain rfl : z = 0 := none_off (by dsimp only; decide) h16
  exact ⟨_, List.mem_of_getElem? (show formsF[25]? = some ⟨21, 0, 0, true, 1, [15, 175], 3, 0, 1, 2, 0, 0⟩ from rfl), fit_mk rfl rfl (fld_some (by decide) hd) (fld_some (by decide) hs) rfl (rfl)⟩
theorem kind22 {d s c z n : Int} (h : validF ⟨22, d, s, c, z, n⟩ = true) : ∃ f ∈ formsF, fitsF f ⟨22, d, s, c, z, n⟩ = true := by
  obtain ⟨⟨_, hd, hs, hc⟩, h1, h2, h4, h8, h16, hz⟩ := valid_parts h
  obtain rfl : s = 0 := none_off (by dsimp only; decide) h2
  obtain rfl : n = 0 := none_off (by dsimp only; decide) h4
  obtain rfl : c = 0 := none_off (by dsimp only; decide) h8
  obtain rfl : z = 0 := none_off (by dsimp only; decide) h16
  exact ⟨_, List.mem_of_getElem? (show formsF[26]? = some ⟨22, 0, 0, true, 1, [247], 3, 4, 2, 0, 0, 0⟩ from rfl), fit_mk rfl rfl (fld_some (by decide) hd) rfl rfl (rfl)⟩
theorem kind23 {d s c z n : Int} (h : validF ⟨23, d, s, c, z, n⟩ = true) : ∃ f ∈ formsF, fitsF f ⟨23, d, s, c, z, n⟩ = true := by
  obtain ⟨⟨_, hd, hs, hc⟩, h1, h2, h4, h8, h16, hz⟩ := valid_parts h
  obtain rfl : s = 0 := none_off (by dsimp only; decide) h2
  obtain rfl : n = 0 := none_off (by dsimp only; decide) h4
  obtain rfl : c = 0 := none_off (by dsimp only; decide) h8
  obtain rfl : z = 0 := none_off (by dsimp only; decide) h16
  exact ⟨_, List.mem_of_getElem? (show formsF[27]? = some ⟨23, 0, 0, true, 1, [247], 3, 6, 2, 0, 0, 0⟩ from rfl), fit_mk rfl rfl (fld_some (by decide) hd) rfl rfl (rfl)⟩
theorem kind24 {d s c z n : Int} (h : validF ⟨24, d, s, c, z, n⟩ = true) : ∃ f ∈ formsF, fitsF f ⟨24, d, s, c, z, n⟩ = true := by
  obtain ⟨⟨_, hd, hs, hc⟩, h1, h2, h4, h8, h16, hz⟩ := valid_parts h
  obtain rfl : s = 0 := none_off (by dsimp only; decide) h2
  obtain rfl : n = 0 := none_off (by dsimp only; decide) h4
  obtain rfl : c = 0 := none_off (by dsimp only; decide) h8
  obtain rfl : z = 0 := none_off (by dsimp only; decide) h16
  exact ⟨_, List.mem_of_getElem? (show formsF[28]? = some ⟨24, 0, 0, true, 1, [247], 3, 3, 2, 0, 0, 0⟩ from rfl), fit_mk rfl rfl (fld_some (by decide) hd) rfl rfl (rfl)⟩
theorem kind25 {d s c z n : Int} (h : validF ⟨25, d, s, c, z, n⟩ = true) : ∃ f ∈ formsF, fitsF f ⟨25, d, s, c, z, n⟩ = true := by
  obtain ⟨⟨_, hd, hs, hc⟩, h1, h2, h4, h8, h16, hz⟩ := valid_parts h
  obtain rfl : s = 0 := none_off (by dsimp only; decide) h2
  obtain rfl : n = 0 := none_off (by dsimp only; decide) h4
  obtain rfl : c = 0 := none_off (by dsimp only; decide) h8
  obtain rfl : z = 0 := none_off (by dsimp only; decide) h16
  exact ⟨_, List.mem_of_getElem? (show formsF[29]? = some ⟨25, 0, 0, true, 1, [247], 3, 2, 2, 0, 0, 0⟩ from rfl), fit_mk rfl rfl (fld_some (by decide) hd) rfl rfl (rfl)⟩
theorem kind26 {d s c z n : Int} (h : validF ⟨26, d, s, c, z, n⟩ = true) : ∃ f ∈ formsF, fitsF f ⟨26, d, s, c, z, n⟩ = true := by
  obtain ⟨⟨_, hd, hs, hc⟩, h1, h2, h4, h8, h16, hz⟩ := valid_parts h
  obtain rfl : s = 0 := none_off (by dsimp only; decide) h2
  obtain rfl : n = 0 := none_off (by dsimp only; decide) h4
  obtain rfl : c = 0 := none_off (by dsimp only; decide) h8
  obtain rfl : z = 0 := none_off (by dsimp only; decide) h16
  exact ⟨_, List.mem_of_getElem? (show formsF[30]? = some ⟨26, 0, 0, true, 1, [211], 3, 4, 2, 0, 0, 0⟩ from rfl), fit_mk rfl rfl (fld_some (by decide) hd) rfl rfl (rfl)⟩
theorem kind27 {d s c z n : Int} (h : validF ⟨27, d, s, c, z, n⟩ = true) : ∃ f ∈ formsF, fitsF f ⟨27, d, s, c, z, n⟩ = true := by
  obtain ⟨⟨_, hd, hs, hc⟩, h1, h2, h4, h8, h16, hz⟩ := valid_parts h
  obtain rfl : s = 0 := none_off (by dsimp only; decide) h2
  obtain rfl : n = 0 := none_off (by dsimp only; decide) h4
  obtain rfl : c = 0 := none_off (by dsimp only; decide) h8
  obtain rfl : z = 0 := none_off (by dsimp only; decide) h16
  exact ⟨_, List.mem_of_getElem? (show formsF[31]? = some ⟨27, 0, 0, true, 1, [211], 3, 5, 2, 0, 0, 0⟩ from rfl), fit_mk rfl rfl (fld_some (by decide) hd) rfl rfl (rfl)⟩
theorem kind28 {d s c z n : Int} (h : validF ⟨28, d, s, c, z, n⟩ = true) : ∃ f ∈ formsF, fitsF f ⟨28, d, s, c, z, n⟩ = true := by
  obtain ⟨⟨_, hd, hs, hc⟩, h1, h2, h4, h8, h16, hz⟩ := valid_parts h
  obtain rfl : s = 0 := none_off (by dsimp only; decide) h2
  obtain rfl : n = 0 := none_off (by dsimp only; decide) h4
  obtain rfl : c = 0 := none_off (by dsimp only; decide) h8
  obtain rfl : z = 0 := none_off (by dsimp only; decide) h16
  exact ⟨_, List.mem_of_getElem? (show formsF[32]? = some ⟨28, 0, 0, true, 1, [211], 3, 7, 2, 0, 0, 0⟩ from rfl), fit_mk rfl rfl (fld_some (by decide) hd) rfl rfl (rfl)⟩
theorem kind29 {d s c z n : Int} (h : validF ⟨29, d, s, c, z, n⟩ = true) : ∃ f ∈ formsF, fitsF f ⟨29, d, s, c, z, n⟩ = true := by
  obtain ⟨⟨_, hd, hs, hc⟩, h1, h2, h4, h8, h16, hz⟩ := valid_parts h
  obtain rfl : s = 0 := none_off (by dsimp only; decide) h2
  obtain rfl : c = 0 := none_off (by dsimp only; decide) h8
  obtain rfl : z = 0 := none_off (by dsimp only; decide) h16
  rw [sizedF, if_neg (by dsimp only; decide), if_neg (by dsimp only; decide), if_pos (by dsimp only; decide)] at hz
  exact ⟨_, List.mem_of_getElem? (show formsF[33]? = some ⟨29, 0, 0, true, 1, [193], 3, 4, 2, 0, 0, 5⟩ from rfl), fit_mk rfl rfl (fld_some (by decide) hd) rfl rfl (hz)⟩
theorem kind30 {d s c z n : Int} (h : validF ⟨30, d, s, c, z, n⟩ = true) : ∃ f ∈ formsF, fitsF f ⟨30, d, s, c, z, n⟩ = true := by
  obtain ⟨⟨_, hd, hs, hc⟩, h1, h2, h4, h8, h16, hz⟩ := valid_parts h
  obtain rfl : s = 0 := none_off (by dsimp only; decide) h2
  obtain rfl : c = 0 := none_off (by dsimp only; decide) h8
  obtain rfl : z = 0 := none_off (by dsimp only; decide) h16
  rw [sizedF, if_neg (by dsimp only; decide), if_neg (by dsimp only; decide), if_pos (by dsimp only; decide)] at hz
  exact ⟨_, List.mem_of_getElem? (show formsF[34]? = some ⟨30, 0, 0, true, 1, [193], 3, 5, 2, 0, 0, 5⟩ from rfl), fit_mk rfl rfl (fld_some (by decide) hd) rfl rfl (hz)⟩
theorem kind31 {d s c z n : Int} (h : validF ⟨31, d, s, c, z, n⟩ = true) : ∃ f ∈ formsF, fitsF f ⟨31, d, s, c, z, n⟩ = true := by
  obtain ⟨⟨_, hd, hs, hc⟩, h1, h2, h4, h8, h16, hz⟩ := valid_parts h
  obtain rfl : s = 0 := none_off (by dsimp only; decide) h2
  obtain rfl : c = 0 := none_off (by dsimp only; decide) h8
  obtain rfl : z = 0 := none_off (by dsimp only; decide) h16
  rw [sizedF, if_neg (by dsimp only; decide), if_neg (by dsimp only; decide), if_pos (by dsimp only; decide)] at hz
  exact ⟨_, List.mem_of_getElem? (show formsF[35]? = some ⟨31, 0, 0, true, 1, [193], 3, 7, 2, 0, 0, 5⟩ from rfl), fit_mk rfl rfl (fld_some (by decide) hd) rfl rfl (hz)⟩
theorem kind32 {d s c z n : Int} (h : validF ⟨32, d, s, c, z, n⟩ = true) : ∃ f ∈ formsF, fitsF f ⟨32, d, s, c, z, n⟩ = true := by
  obtain ⟨⟨_, hd, hs, hc⟩, h1, h2, h4, h8, h16, hz⟩ := valid_parts h
  obtain rfl : s = 0 := none_off (by dsimp only; decide) h2
  obtain rfl : n = 0 := none_off (by dsimp only; decide) h4
  obtain rfl : z = 0 := none_off (by dsimp only; decide) h16
  exact ⟨_, List.mem_of_getElem? (show formsF[36]? = some ⟨32, 0, 0, true, 0, [15, 144], 3, 0, 2, 0, 4, 0⟩ from rfl), fit_mk rfl rfl (fld_some (by decide) hd) rfl (fld_some (by decide) hc) (rfl)⟩
theorem kind33 {d s c z n : Int} (h : validF ⟨33, d, s, c, z, n⟩ = true) : ∃ f ∈ formsF, fitsF f ⟨33, d, s, c, z, n⟩ = true := by
  obtain ⟨⟨_, hd, hs, hc⟩, h1, h2, h4, h8, h16, hz⟩ := valid_parts h
  obtain rfl : n = 0 := none_off (by dsimp only; decide) h4
  obtain rfl : c = 0 := none_off (by dsimp only; decide) h8
  obtain rfl : z = 0 := none_off (by dsimp only; decide) h16
  exact ⟨_, List.mem_of_getElem? (show formsF[37]? = some ⟨33, 0, 0, true, 1, [15, 182], 3, 0, 1, 2, 0, 0⟩ from rfl), fit_mk rfl rfl (fld_some (by decide) hd) (fld_some (by decide) hs) rfl (rfl)⟩
theorem kind34 {d s c z n : Int} (h : validF ⟨34, d, s, c, z, n⟩ = true) : ∃ f ∈ formsF, fitsF f ⟨34, d, s, c, z, n⟩ = true := by
  obtain ⟨⟨_, hd, hs, hc⟩, h1, h2, h4, h8, h16, hz⟩ := valid_parts h
  obtain rfl : n = 0 := none_off (by dsimp only; decide) h4
  obtain rfl : z = 0 := none_off (by dsimp only; decide) h16
  exact ⟨_, List.mem_of_getElem? (show formsF[38]? = some ⟨34, 0, 0, true, 1, [15, 64], 3, 0, 1, 2, 4, 0⟩ from rfl), fit_mk rfl rfl (fld_some (by decide) hd) (fld_some (by decide) hs) (fld_some (by decide) hc) (rfl)⟩
theorem kind35 {d s c z n : Int} (h : validF ⟨35, d, s, c, z, n⟩ = true) : ∃ f ∈ formsF, fitsF f ⟨35, d, s, c, z, n⟩ = true := by
  obtain ⟨⟨_, hd, hs, hc⟩, h1, h2, h4, h8, h16, hz⟩ := valid_parts h
  obtain rfl : d = 0 := none_off (by dsimp only; decide) h1
  obtain rfl : s = 0 := none_off (by dsimp only; decide) h2
  obtain rfl : c = 0 := none_off (by dsimp only; decide) h8
  rw [sizedF, if_neg (by dsimp only; decide), if_pos (by dsimp only; decide), Bool.or_eq_true, Bool.and_eq_true, Bool.and_eq_true] at hz
  rcases hz with ⟨hz, hn⟩ | ⟨hz, hn⟩
  · obtain rfl := of_decide_eq_true hz
    exact ⟨_, List.mem_of_getElem? (show formsF[40]? = some ⟨35, 4, 0, false, 0, [233], -1, 0, 0, 0, 0, 6⟩ from rfl), fit_mk rfl rfl rfl rfl rfl (hn)⟩
  · obtain rfl := of_decide_eq_true hz
    exact ⟨_, List.mem_of_getElem? (show formsF[39]? = some ⟨35, 1, 0, false, 0, [235], -1, 0, 0, 0, 0, 5⟩ from rfl), fit_mk rfl rfl rfl rfl rfl (hn)⟩
theorem kind36 {d s c z n : Int} (h : validF ⟨36, d, s, c, z, n⟩ = true) : ∃ f ∈ formsF, fitsF f ⟨36, d, s, c, z, n⟩ = true := by
  obtain ⟨⟨_, hd, hs, hc⟩, h1, h2, h4, h8, h16, hz⟩ := valid_parts h
  obtain rfl : d = 0 := none_off (by dsimp only; decide) h1
  obtain rfl : s = 0 := none_off (by dsimp only; decide) h2
  rw [sizedF, if_neg (by dsimp only; decide), if_pos (by dsimp only; decide), Bool.or_eq_true, Bool.and_eq_true, Bool.and_eq_true] at hz
  rcases hz with ⟨hz, hn⟩ | ⟨hz, hn⟩
  · obtain rfl := of_decide_eq_true hz
    exact ⟨_, List.mem_of_getElem? (show formsF[42]? = some ⟨36, 4, 0, false, 0, [15, 128], -1, 0, 0, 0, 4, 6⟩ from rfl), fit_mk rfl rfl rfl rfl (fld_some (by decide) hc) (hn)⟩
  · obtain rfl := of_decide_eq_true hz
    exact ⟨_, List.mem_of_getElem? (show formsF[41]? = some ⟨36, 1, 0, false, 0, [112], -1, 0, 0, 0, 4, 5⟩ from rfl), fit_mk rfl rfl rfl rfl (fld_some (by decide) hc) (hn)⟩
theorem kind37 {d s c z n : Int} (h : validF ⟨37, d, s, c, z, n⟩ = true) : ∃ f ∈ formsF, fitsF f ⟨37, d, s, c, z, n⟩ = true := by
  obtain ⟨⟨_, hd, hs, hc⟩, h1, h2, h4, h8, h16, hz⟩ := valid_parts h
  obtain rfl : d = 0 := none_off (by dsimp only; decide) h1
  obtain rfl : s = 0 := none_off (by dsimp only; decide) h2
  obtain rfl : c = 0 := none_off (by dsimp only; decide) h8
  obtain rfl : z = 0 := none_off (by dsimp only; decide) h16
  rw [sizedF, if_neg (by dsimp only; decide), if_neg (by dsimp only; decide), if_neg (by dsimp only; decide)] at hz
  have hn : smallF n = true := hz
  exact ⟨_, List.mem_of_getElem? (show formsF[43]? = some ⟨37, 0, 0, false, 0, [232], -1, 0, 0, 0, 0, 6⟩ from rfl), fit_mk rfl rfl rfl rfl rfl (hn)⟩
theorem kind38 {d s c z n : Int} (h : validF ⟨38, d, s, c, z, n⟩ = true) : ∃ f ∈ formsF, fitsF f ⟨38, d, s, c, z, n⟩ = true := by
  obtain ⟨⟨_, hd, hs, hc⟩, h1, h2, h4, h8, h16, hz⟩ := valid_parts h
  obtain rfl : s = 0 := none_off (by dsimp only; decide) h2
  obtain rfl : n = 0 := none_off (by dsimp only; decide) h4
  obtain rfl : c = 0 := none_off (by dsimp only; decide) h8
  obtain rfl : z = 0 := none_off (by dsimp only; decide) h16
  exact ⟨_, List.mem_of_getElem? (show formsF[44]? = some ⟨38, 0, 0, true, 0, [255], 3, 2, 2, 0, 0, 0⟩ from rfl), fit_mk rfl rfl (fld_some (by decide) hd) rfl rfl (rfl)⟩
theorem kind39 {d s c z n : Int} (h : validF ⟨39, d, s, c, z, n⟩ = true) : ∃ f ∈ formsF, fitsF f ⟨39, d, s, c, z, n⟩ = true := by
  obtain ⟨⟨_, hd, hs, hc⟩, h1, h2, h4, h8, h16, hz⟩ := valid_parts h
  obtain rfl : s = 0 := none_off (by dsimp only; decide) h2
  obtain rfl : n = 0 := none_off (by dsimp only; decide) h4
  obtain rfl : c = 0 := none_off (by dsimp only; decide) h8
  obtain rfl : z = 0 := none_off (by dsimp only; decide) h16
  exact ⟨_, List.mem_of_getElem? (show formsF[45]? = some ⟨39, 0, 0, true, 0, [255], 3, 4, 2, 0, 0, 0⟩ from rfl), fit_mk rfl rfl (fld_some (by decide) hd) rfl rfl (rfl)⟩
theorem kind40 {d s c z n : Int} (h : validF ⟨40, d, s, c, z, n⟩ = true) : ∃ f ∈ formsF, fitsF f ⟨40, d, s, c, z, n⟩ = true := by
  obtain ⟨⟨_, hd, hs, hc⟩, h1, h2, h4, h8, h16, hz⟩ := valid_parts h
  obtain rfl : d = 0 := none_off (by dsimp only; decide) h1
  obtain rfl : s = 0 := none_off (by dsimp only; decide) h2
  obtain rfl : n = 0 := none_off (by dsimp only; decide) h4
  obtain rfl : c = 0 := none_off (by dsimp only; decide) h8
  obtain rfl : z = 0 := none_off (by dsimp only; decide) h16
  exact ⟨_, List.mem_of_getElem? (show formsF[46]? = some ⟨40, 0, 0, false, 0, [195], -1, 0, 0, 0, 0, 0⟩ from rfl), fit_mk rfl rfl rfl rfl rfl (rfl)⟩
theorem kind41 {d s c z n : Int} (h : validF ⟨41, d, s, c, z, n⟩ = true) : ∃ f ∈ formsF, fitsF f ⟨41, d, s, c, z, n⟩ = true := by
  obtain ⟨⟨_, hd, hs, hc⟩, h1, h2, h4, h8, h16, hz⟩ := valid_parts h
  obtain rfl : s = 0 := none_off (by dsimp only; decide) h2
  obtain rfl : n = 0 := none_off (by dsimp only; decide) h4
  obtain rfl : c = 0 := none_off (by dsimp only; decide) h8
  obtain rfl : z = 0 := none_off (by dsimp only; decide) h16
  exact ⟨_, List.mem_of_getElem? (show formsF[47]? = some ⟨41, 0, 0, true, 0, [80], -1, 0, 3, 0, 0, 0⟩ from rfl), fit_mk rfl rfl (fld_some (by decide) hd) rfl rfl (rfl)⟩
theorem kind42 {d s c z n : Int} (h : validF ⟨42, d, s, c, z, n⟩ = true) : ∃ f ∈ formsF, fitsF f ⟨42, d, s, c, z, n⟩ = true := by
  obtain ⟨⟨_, hd, hs, hc⟩, h1, h2, h4, h8, h16, hz⟩ := valid_parts h
  obtain rfl : s = 0 := none_off (by dsimp only; decide) h2
  obtain rfl : n = 0 := none_off (by dsimp only; decide) h4
  obtain rfl : c = 0 := none_off (by dsimp only; decide) h8
  obtain rfl : z = 0 := none_off (by dsimp only; decide) h16
  exact ⟨_, List.mem_of_getElem? (show formsF[48]? = some ⟨42, 0, 0, true, 0, [88], -1, 0, 3, 0, 0, 0⟩ from rfl), fit_mk rfl rfl (fld_some (by decide) hd) rfl rfl (rfl)⟩
theorem kind43 {d s c z n : Int} (h : validF ⟨43, d, s, c, z, n⟩ = true) : ∃ f ∈ formsF, fitsF f ⟨43, d, s, c, z, n⟩ = true := by
  obtain ⟨⟨_, hd, hs, hc⟩, h1, h2, h4, h8, h16, hz⟩ := valid_parts h
  obtain rfl : d = 0 := none_off (by dsimp only; decide) h1
  obtain rfl : s = 0 := none_off (by dsimp only; decide) h2
  obtain rfl : n = 0 := none_off (by dsimp only; decide) h4
  obtain rfl : c = 0 := none_off (by dsimp only; decide) h8
  obtain rfl : z = 0 := none_off (by dsimp only; decide) h16
  exact ⟨_, List.mem_of_getElem? (show formsF[49]? = some ⟨43, 0, 0, false, 0, [15, 5], -1, 0, 0, 0, 0, 0⟩ from rfl), fit_mk rfl rfl rfl rfl rfl (rfl)⟩
theorem kind44 {d s c z n : Int} (h : validF ⟨44, d, s, c, z, n⟩ = true) : ∃ f ∈ formsF, fitsF f ⟨44, d, s, c, z, n⟩ = true := by
  obtain ⟨⟨_, hd, hs, hc⟩, h1, h2, h4, h8, h16, hz⟩ := valid_parts h
  obtain rfl : d = 0 := none_off (by dsimp only; decide) h1
  obtain rfl : s = 0 := none_off (by dsimp only; decide) h2
  obtain rfl : n = 0 := none_off (by dsimp only; decide) h4
  obtain rfl : c = 0 := none_off (by dsimp only; decide) h8
  obtain rfl : z = 0 := none_off (by dsimp only; decide) h16
  exact ⟨_, List.mem_of_getElem? (show formsF[50]? = some ⟨44, 0, 0, false, 0, [15, 11], -1, 0, 0, 0, 0, 0⟩ from rfl), fit_mk rfl rfl rfl rfl rfl (rfl)⟩
theorem kind45 {d s c z n : Int} (h : validF ⟨45, d, s, c, z, n⟩ = true) : ∃ f ∈ formsF, fitsF f ⟨45, d, s, c, z, n⟩ = true := by
  obtain ⟨⟨_, hd, hs, hc⟩, h1, h2, h4, h8, h16, hz⟩ := valid_parts h
  obtain rfl : n = 0 := none_off (by dsimp only; decide) h4
  obtain rfl : c = 0 := none_off (by dsimp only; decide) h8
  obtain rfl : z = 0 := none_off (by dsimp only; decide) h16
  exact ⟨_, List.mem_of_getElem? (show formsF[51]? = some ⟨45, 0, 102, true, 1, [15, 110], 3, 0, 1, 2, 0, 0⟩ from rfl), fit_mk rfl rfl (fld_some (by decide) hd) (fld_some (by decide) hs) rfl (rfl)⟩
theorem kind46 {d s c z n : Int} (h : validF ⟨46, d, s, c, z, n⟩ = true) : ∃ f ∈ formsF, fitsF f ⟨46, d, s, c, z, n⟩ = true := by
  obtain ⟨⟨_, hd, hs, hc⟩, h1, h2, h4, h8, h16, hz⟩ := valid_parts h
  obtain rfl : n = 0 := none_off (by dsimp only; decide) h4
  obtain rfl : c = 0 := none_off (by dsimp only; decide) h8
  obtain rfl : z = 0 := none_off (by dsimp only; decide) h16
  exact ⟨_, List.mem_of_getElem? (show formsF[52]? = some ⟨46, 0, 102, true, 1, [15, 126], 3, 0, 2, 1, 0, 0⟩ from rfl), fit_mk rfl rfl (fld_some (by decide) hd) (fld_some (by decide) hs) rfl (rfl)⟩
theorem kind47 {d s c z n : Int} (h : validF ⟨47, d, s, c, z, n⟩ = true) : ∃ f ∈ formsF, fitsF f ⟨47, d, s, c, z, n⟩ = true := by
  obtain ⟨⟨_, hd, hs, hc⟩, h1, h2, h4, h8, h16, hz⟩ := valid_parts h
  obtain rfl : n = 0 := none_off (by dsimp only; decide) h4
  obtain rfl : c = 0 := none_off (by dsimp only; decide) h8
  obtain rfl : z = 0 := none_off (by dsimp only; decide) h16
  exact ⟨_, List.mem_of_getElem? (show formsF[53]? = some ⟨47, 0, 242, true, 0, [15, 88], 3, 0, 1, 2, 0, 0⟩ from rfl), fit_mk rfl rfl (fld_some (by decide) hd) (fld_some (by decide) hs) rfl (rfl)⟩
theorem kind48 {d s c z n : Int} (h : validF ⟨48, d, s, c, z, n⟩ = true) : ∃ f ∈ formsF, fitsF f ⟨48, d, s, c, z, n⟩ = true := by
  obtain ⟨⟨_, hd, hs, hc⟩, h1, h2, h4, h8, h16, hz⟩ := valid_parts h
  obtain rfl : n = 0 := none_off (by dsimp only; decide) h4
  obtain rfl : c = 0 := none_off (by dsimp only; decide) h8
  obtain rfl : z = 0 := none_off (by dsimp only; decide) h16
  exact ⟨_, List.mem_of_getElem? (show formsF[54]? = some ⟨48, 0, 242, true, 0, [15, 89], 3, 0, 1, 2, 0, 0⟩ from rfl), fit_mk rfl rfl (fld_some (by decide) hd) (fld_some (by decide) hs) rfl (rfl)⟩
theorem kind49 {d s c z n : Int} (h : validF ⟨49, d, s, c, z, n⟩ = true) : ∃ f ∈ formsF, fitsF f ⟨49, d, s, c, z, n⟩ = true := by
  obtain ⟨⟨_, hd, hs, hc⟩, h1, h2, h4, h8, h16, hz⟩ := valid_parts h
  obtain rfl : n = 0 := none_off (by dsimp only; decide) h4
  obtain rfl : c = 0 := none_off (by dsimp only; decide) h8
  obtain rfl : z = 0 := none_off (by dsimp only; decide) h16
  exact ⟨_, List.mem_of_getElem? (show formsF[55]? = some ⟨49, 0, 242, true, 0, [15, 92], 3, 0, 1, 2, 0, 0⟩ from rfl), fit_mk rfl rfl (fld_some (by decide) hd) (fld_some (by decide) hs) rfl (rfl)⟩
theorem kind50 {d s c z n : Int} (h : validF ⟨50, d, s, c, z, n⟩ = true) : ∃ f ∈ formsF, fitsF f ⟨50, d, s, c, z, n⟩ = true := by
  obtain ⟨⟨_, hd, hs, hc⟩, h1, h2, h4, h8, h16, hz⟩ := valid_parts h
  obtain rfl : n = 0 := none_off (by dsimp only; decide) h4
  obtain rfl : c = 0 := none_off (by dsimp only; decide) h8
  obtain rfl : z = 0 := none_off (by dsimp only; decide) h16
  exact ⟨_, List.mem_of_getElem? (show formsF[56]? = some ⟨50, 0, 242, true, 0, [15, 94], 3, 0, 1, 2, 0, 0⟩ from rfl), fit_mk rfl rfl (fld_some (by decide) hd) (fld_some (by decide) hs) rfl (rfl)⟩
theorem kind51 {d s c z n : Int} (h : validF ⟨51, d, s, c, z, n⟩ = true) : ∃ f ∈ formsF, fitsF f ⟨51, d, s, c, z, n⟩ = true := by
  obtain ⟨⟨_, hd, hs, hc⟩, h1, h2, h4, h8, h16, hz⟩ := valid_parts h
  obtain rfl : n = 0 := none_off (by dsimp only; decide) h4
  obtain rfl : c = 0 := none_off (by dsimp only; decide) h8
  obtain rfl : z = 0 := none_off (by dsimp only; decide) h16
  exact ⟨_, List.mem_of_getElem? (show formsF[57]? = some ⟨51, 0, 102, true, 0, [15, 46], 3, 0, 1, 2, 0, 0⟩ from rfl), fit_mk rfl rfl (fld_some (by decide) hd) (fld_some (by decide) hs) rfl (rfl)⟩
theorem kind52 {d s c z n : Int} (h : validF ⟨52, d, s, c, z, n⟩ = true) : ∃ f ∈ formsF, fitsF f ⟨52, d, s, c, z, n⟩ = true := by
  obtain ⟨⟨_, hd, hs, hc⟩, h1, h2, h4, h8, h16, hz⟩ := valid_parts h
  obtain rfl : n = 0 := none_off (by dsimp only; decide) h4
  obtain rfl : c = 0 := none_off (by dsimp only; decide) h8
  obtain rfl : z = 0 := none_off (by dsimp only; decide) h16
  exact ⟨_, List.mem_of_getElem? (show formsF[58]? = some ⟨52, 0, 242, true, 1, [15, 42], 3, 0, 1, 2, 0, 0⟩ from rfl), fit_mk rfl rfl (fld_some (by decide) hd) (fld_some (by decide) hs) rfl (rfl)⟩
theorem valid_form {i : Ins} (h : validF i = true) : ∃ f ∈ formsF, fitsF f i = true := by
  have hk := (validF_regs h).1
  obtain ⟨k, d, s, c, z, n⟩ := i
  have hk : 1 ≤ k ∧ k ≤ 52 := hk
  have hk2 : k = 1 ∨ k = 2 ∨ k = 3 ∨ k = 4 ∨ k = 5 ∨ k = 6 ∨ k = 7 ∨ k = 8 ∨ k = 9 ∨ k = 10 ∨ k = 11 ∨ k = 12 ∨ k = 13 ∨ k = 14 ∨ k = 15 ∨ k = 16 ∨ k = 17 ∨ k = 18 ∨ k = 19 ∨ k = 20 ∨ k = 21 ∨ k = 22 ∨ k = 23 ∨ k = 24 ∨ k = 25 ∨ k = 26 ∨ k = 27 ∨ k = 28 ∨ k = 29 ∨ k = 30 ∨ k = 31 ∨ k = 32 ∨ k = 33 ∨ k = 34 ∨ k = 35 ∨ k = 36 ∨ k = 37 ∨ k = 38 ∨ k = 39 ∨ k = 40 ∨ k = 41 ∨ k = 42 ∨ k = 43 ∨ k = 44 ∨ k = 45 ∨ k = 46 ∨ k = 47 ∨ k = 48 ∨ k = 49 ∨ k = 50 ∨ k = 51 ∨ k = 52 := by omega
  rcases hk2 with rfl | rfl | rfl | rfl | rfl | rfl | rfl | rfl | rfl | rfl | rfl | rfl | rfl | rfl | rfl | rfl | rfl | rfl | rfl | rfl | rfl | rfl | rfl | rfl | rfl | rfl | rfl | rfl | rfl | rfl | rfl | rfl | rfl | rfl | rfl | rfl | rfl | rfl | rfl | rfl | rfl | rfl | rfl | rfl | rfl | rfl | rfl | rfl | rfl | rfl | rfl | rfl
  · exact kind1 h
  · exact kind2 h
  · exact kind3 h
  · exact kind4 h
  · exact kind5 h
  · exact kind6 h
  · exact kind7 h
  · exact kind8 h
  · exact kind9 h
  · exact kind10 h
  · exact kind11 h
  · exact kind12 h
  · exact kind13 h
  · exact kind14 h
  · exact kind15 h
  · exact kind16 h
  · exact kind17 h
  · exact kind18 h
  · exact kind19 h
  · exact kind20 h
  · exact kind21 h
  · exact kind22 h
  · exact kind23 h
  · exact kind24 h
  · exact kind25 h
  · exact kind26 h
  · exact kind27 h
  · exact kind28 h
  · exact kind29 h
  · exact kind30 h
  · exact kind31 h
  · exact kind32 h
  · exact kind33 h
  · exact kind34 h
  · exact kind35 h
  · exact kind36 h
  · exact kind37 h
  · exact kind38 h
  · exact kind39 h
  · exact kind40 h
  · exact kind41 h
  · exact kind42 h
  · exact kind43 h
  · exact kind44 h
  · exact kind45 h
  · exact kind46 h
  · exact kind47 h
  · exact kind48 h
  · exact kind49 h
  · exact kind50 h
  · exact kind51 h
  · exact kind52 h
theorem refF_some {i : Ins} (h : validF i = true) : ∃ f, refF i = some f ∧ f ∈ formsF ∧ fitsF f i = true := by
  cases hf : refF i with
  | none =>
    obtain ⟨f, h1, h2⟩ := valid_form h
    have := List.find?_eq_none.1 hf f h1
    exact absurd h2 this
  | some f => exact ⟨f, rfl, List.mem_of_find?_eq_some hf, List.find?_some (p := fun f => fitsF f i) hf⟩
theorem refF_none {i : Ins} (h : ¬ validF i = true) : refF i = none := by
  cases hf : refF i with
  | none => rfl
  | some f => exact absurd (forms_enc (List.mem_of_find?_eq_some hf) (List.find?_some (p := fun f => fitsF f i) hf)).1 h
theorem ref_valid (i : Ins) : (refF i).isSome = validF i := by
  by_cases h : validF i = true
  · obtain ⟨f, h1, _⟩ := refF_some h
    rw [h1, h]; rfl
  · rw [refF_none h]
    simpa using h
theorem ref_bytes (i : Ins) : refB i = if validF i = true then encF i else [] := by
  by_cases h : validF i = true
  · obtain ⟨f, h1, h2, h3⟩ := refF_some h
    rw [if_pos h, refB, h1, (forms_enc h2 h3).2]
  · rw [if_neg h, refB, refF_none h]
theorem ref_err (i : Ins) : refE i = encE i := by
  rw [refE, ref_valid, encE]
theorem ref_at {i : Ins} {j : Nat} (hj : j < formsF.length) (hp : ∀ k, k < j → fitsF (formsF.getD k default) i = false) (h : fitsF (formsF.getD j default) i = true) : refF i = some (formsF.getD j default) := by
  rw [refF, getD_eq' hj, List.find?_eq_some_iff_getElem]
  rw [getD_eq' hj] at h
  refine ⟨h, j, hj, rfl, fun k hk => ?_⟩
  have := hp k hk
  rw [getD_eq' (by omega)] at this
  rw [this]; rfl
theorem ref_out {i : Ins} (hp : ∀ k, k < formsF.length → fitsF (formsF.getD k default) i = false) : refF i = none := by
  rw [refF, List.find?_eq_none]
  intro f hf
  obtain ⟨k, hk, rfl⟩ := List.mem_iff_getElem.1 hf
  have := hp k hk
  rw [getD_eq' hk] at this
  rw [this]; decide
end Go.Proofs.YtjndpakhmgapjaaDoor
