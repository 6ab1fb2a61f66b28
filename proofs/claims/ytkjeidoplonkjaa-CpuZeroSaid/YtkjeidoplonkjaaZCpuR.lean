import Derived.Test.YtkjeidoplonkjaaZL12B
import Derived.Test.YtkjeidoplonkjaaZComX
import Derived.Test.YtkjeidoplonkjaaZEngR2
set_option linter.unusedVariables false
set_option linter.unusedSimpArgs false
set_option maxRecDepth 100000
namespace Go.Proofs.Ytkjeidoplonkjaa
open Go Go.ChangeShapes Go.WideShapes Go.ChangeAt Go.RowKit
theorem scells_u32 : Try.prog.cellsOf 25 = 1 := by kernel_rfl
theorem scells_i64 : Try.prog.cellsOf 2 = 1 := by kernel_rfl
theorem scells_arr : Try.prog.cellsOf 30 = 32 := by kernel_rfl
theorem scells_st : Try.prog.cellsOf 32 = 34 := by kernel_rfl
theorem three_cut {cs : List Value} (h : cs.length = 34) : cs = (cs.drop 0).take 32 ++ ((cs.drop 32).take 1 ++ (cs.drop 33).take 1) := by
  rw [List.drop_zero]
  apply List.ext_getElem?
  intro i
  by_cases h1 : i < 32
  · rw [List.getElem?_append_left (by rw [List.length_take]; omega), List.getElem?_take_of_lt h1]
  · rw [List.getElem?_append_right (by rw [List.length_take]; omega), List.length_take, show min 32 cs.length = 32 by omega]
    rcases (show i = 32 ∨ i = 33 ∨ 34 ≤ i by omega) with rfl | rfl | h2
    · rw [List.getElem?_append_left (by simp [h])]; simp
    · rw [List.getElem?_append_right (by simp [h])]; simp [h]
    · rw [List.getElem?_eq_none (by omega), List.getElem?_eq_none (by simp; omega)]
theorem Rdd.stW {w : World} {cs : List Value} (h : Rdd Try.prog w 32 cs) : ∃ s : StP, cs = s.cells ∧ StRd s := by
  obtain ⟨h1, h3⟩ := Rdd.struct Try.underlying32 h
  rw [scells_st] at h1
  have f0 := Rdd.cut ((cs.drop 0).take 32) (h3 0 _ rfl) scells_arr rfl
  obtain ⟨x, q0, r0, r1⟩ := Rdd.arrN wfn_u32 Try.underlying30 Try.underlying25 scells_u32 scells_arr f0
  have f1 := Rdd.cut ((cs.drop 32).take 1) (h3 1 _ rfl) scells_u32 rfl
  obtain ⟨z1, q1, w1⟩ := Rdd.int Try.underlying25 f1
  obtain ⟨pc, rfl, hpc⟩ := wf_u32 w1
  have f2 := Rdd.cut ((cs.drop 33).take 1) (h3 2 _ rfl) scells_i64 rfl
  obtain ⟨ret, q2, r2⟩ := Rdd.int Try.underlying2 f2
  refine ⟨⟨x, pc, ret⟩, ?_, ⟨r0, r1, hpc, wf_i64 r2⟩⟩
  rw [three_cut h1, q0, q1, q2]
  simp [StP.cells, natsV]
end Go.Proofs.Ytkjeidoplonkjaa
