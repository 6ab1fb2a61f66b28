/- The calls of the rows of law3: what they read as. -/
import Derived.Test.YtgfbdiibndbbjaaMemS
import Derived.Test.YtgfbdiibndbbjaaComR
set_option linter.unusedVariables false
set_option linter.unusedSimpArgs false
set_option maxRecDepth 100000
namespace Go.Proofs.Ytgfbdiibndbbjaa
open Go Go.ChangeShapes Go.WideShapes Go.ChangeAt Go.RowKit
theorem cells_3_MemT : Try.prog.cellsOf 3 = 1 := by kernel_rfl
theorem bytes_3_MemT : 1 ≤ Try.prog.bytesOf 3 := of_decide_eq_true (by kernel_rfl)
theorem cells_26_MemT : Try.prog.cellsOf 26 = 1 := by kernel_rfl
theorem bytes_26_MemT : 1 ≤ Try.prog.bytesOf 26 := of_decide_eq_true (by kernel_rfl)
theorem cells_25_MemT : Try.prog.cellsOf 25 = 1 := by kernel_rfl
theorem bytes_25_MemT : 1 ≤ Try.prog.bytesOf 25 := of_decide_eq_true (by kernel_rfl)
theorem cells_5_MemT : Try.prog.cellsOf 5 = 1 := by kernel_rfl
theorem bytes_5_MemT : 1 ≤ Try.prog.bytesOf 5 := of_decide_eq_true (by kernel_rfl)
theorem cells_50_MemT : Try.prog.cellsOf 50 = 6 := by kernel_rfl
theorem bytes_50_MemT : 1 ≤ Try.prog.bytesOf 50 := of_decide_eq_true (by kernel_rfl)
theorem Rdd.rActG {w : World} {cs : List Value} (h : Rdd Try.prog w 50 cs) : ∃ x : ActG, cs = x.cells ∧ x.Rd (whole w) := by
  obtain ⟨h1, h3⟩ := Rdd.struct Try.underlying50 h
  rw [cells_50_MemT] at h1
  match cs, h1 with
  | [c0, c1, c2, c3, c4, c5], _ =>
    have f0 := Rdd.cut [c0] (h3 0 _ rfl) cells_3_MemT rfl
    obtain ⟨x0, q0, r0⟩ := Rdd.int Try.underlying3 f0
    injection q0 with q0
    have f1 := Rdd.cut [c1] (h3 1 _ rfl) cells_26_MemT rfl
    obtain ⟨z1, q1, w1⟩ := Rdd.int Try.underlying26 f1
    obtain ⟨x1, rfl, r1⟩ := wf_u32 w1
    injection q1 with q1
    have f2 := Rdd.cut [c2] (h3 2 _ rfl) cells_26_MemT rfl
    obtain ⟨z2, q2, w2⟩ := Rdd.int Try.underlying26 f2
    obtain ⟨x2, rfl, r2⟩ := wf_u32 w2
    injection q2 with q2
    have f3 := Rdd.cut [c3] (h3 3 _ rfl) cells_3_MemT rfl
    obtain ⟨x3, q3, r3⟩ := Rdd.int Try.underlying3 f3
    injection q3 with q3
    have f4 := Rdd.cut [c4] (h3 4 _ rfl) cells_3_MemT rfl
    obtain ⟨x4, q4, r4⟩ := Rdd.int Try.underlying3 f4
    injection q4 with q4
    have f5 := Rdd.cut [c5] (h3 5 _ rfl) cells_25_MemT rfl
    obtain ⟨x5, q5, r5⟩ := Rdd.u8s Try.underlying25 Try.underlying5 cells_5_MemT bytes_5_MemT f5
    injection q5 with q5
    exact ⟨⟨x0, x1, x2, x3, x4, x5⟩, by rw [q0, q1, q2, q3, q4, q5]; rfl, ⟨r0, r1, r2, r3, r4, r5⟩⟩
theorem Rdd.rActGs {w : World} {t : TypeId} {cs : List Value} (hu : Try.prog.underlying t = some (.slice 50)) (h : Rdd Try.prog w t cs) : ∃ s : Sl ActG, cs = [s.v] ∧ RdActGs s (whole w) := by
  obtain ⟨A, len, cap, rows, e0, hl, hrow, hrd⟩ := Rdd.slice hu cells_50_MemT bytes_50_MemT h
  obtain ⟨xs, rfl, hx⟩ := rows_of (c := ActG.cells) (I := fun x => x.Rd (whole w)) (fun r hr => Rdd.rActG (hrow r hr).2)
  rw [List.length_map] at hl
  subst hl
  exact ⟨⟨A, cap, xs⟩, e0, by rw [← List.flatMap_def] at hrd; exact hrd, hx⟩
end Go.Proofs.Ytgfbdiibndbbjaa
