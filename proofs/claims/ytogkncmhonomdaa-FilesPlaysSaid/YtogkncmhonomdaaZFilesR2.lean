import Derived.Test.YtogkncmhonomdaaZFilesYh
import Derived.Test.YtogkncmhonomdaaZFeedRd
import Derived.Test.YtogkncmhonomdaaZComX
import Derived.Test.YtogkncmhonomdaaZEngR2
set_option linter.unusedVariables false
set_option linter.unusedSimpArgs false
set_option maxRecDepth 100000
namespace Go.Proofs.Ytogkncmhonomdaa
open Go Go.ChangeShapes Go.WideShapes Go.ChangeAt Go.RowKit
theorem cells_3_FilesR2 : Try.prog.cellsOf 3 = 1 := by kernel_rfl
theorem cells_21_FilesR2 : Try.prog.cellsOf 21 = 1 := by kernel_rfl
theorem cells_9_FilesR2 : Try.prog.cellsOf 9 = 1 := by kernel_rfl
theorem cells_41_FilesR2 : Try.prog.cellsOf 41 = 5 := by kernel_rfl
theorem bytes_41_FilesR2 : 1 ≤ Try.prog.bytesOf 41 := of_decide_eq_true (by kernel_rfl)
theorem Rdd.rActF {w : World} {cs : List Value} (h : Rdd Try.prog w 41 cs) : ∃ x : ActF, cs = x.cells ∧ x.Rd (whole w) := by
  obtain ⟨h1, h3⟩ := Rdd.struct Try.underlying41 h
  rw [cells_41_FilesR2] at h1
  match cs, h1 with
  | [c0, c1, c2, c3, c4], _ =>
    have f0 := Rdd.cut [c0] (h3 0 _ rfl) cells_3_FilesR2 rfl
    obtain ⟨x0, q0, r0⟩ := Rdd.int Try.underlying3 f0
    injection q0 with q0
    have f1 := Rdd.cut [c1] (h3 1 _ rfl) cells_3_FilesR2 rfl
    obtain ⟨x1, q1, r1⟩ := Rdd.int Try.underlying3 f1
    injection q1 with q1
    have f2 := Rdd.cut [c2] (h3 2 _ rfl) cells_3_FilesR2 rfl
    obtain ⟨x2, q2, r2⟩ := Rdd.int Try.underlying3 f2
    injection q2 with q2
    have f3 := Rdd.cut [c3] (h3 3 _ rfl) cells_21_FilesR2 rfl
    obtain ⟨x3, q3, r3⟩ := Rdd.int Try.underlying21 f3
    injection q3 with q3
    have f4 := Rdd.cut [c4] (h3 4 _ rfl) cells_9_FilesR2 rfl
    obtain ⟨x4, q4, r4⟩ := Rdd.string Try.underlying9 f4
    injection q4 with q4
    exact ⟨⟨x0, x1, x2, x3, x4⟩, by rw [q0, q1, q2, q3, q4]; rfl, ⟨r0, r1, r2, r3, r4⟩⟩
theorem Rdd.rActFs {w : World} {t : TypeId} {cs : List Value} (hu : Try.prog.underlying t = some (.slice 41)) (h : Rdd Try.prog w t cs) : ∃ s : Sl ActF, cs = [s.v] ∧ RdActFs s (whole w) := by
  obtain ⟨A, len, cap, rows, e0, hl, hrow, hrd⟩ := Rdd.slice hu cells_41_FilesR2 bytes_41_FilesR2 h
  obtain ⟨xs, rfl, hx⟩ := rows_of (c := ActF.cells) (I := fun x => x.Rd (whole w)) (fun r hr => Rdd.rActF (hrow r hr).2)
  rw [List.length_map] at hl
  subst hl
  exact ⟨⟨A, cap, xs⟩, e0, by rw [← List.flatMap_def] at hrd; exact hrd, hx⟩
theorem w3 (W : World) {b : Nat} (v0 v1 : Value) (o0 : Value.okWide Try.prog W .any b 28 v0) (o1 : Value.okWide Try.prog W .any b 29 v1) (q0 : Rdd Try.prog W 28 v0.cells.toList) (q1 : Rdd Try.prog W 29 v1.cells.toList) :
    Calls Try.prog 3 #[v0, v1] W fun e w' => e = .returned (.bool true) ∧ Below W.heap.size W w' := by
  obtain ⟨f, e0, r0, c0⟩ := Rdd.feedW q0
  obtain ⟨s, e1, r1⟩ := Rdd.rActFs Try.underlying29 q1
  obtain rfl := val_struct (w := W) Try.underlying28 o0 e0
  obtain rfl := val_slice (w := W) Try.underlying29 o1 e1
  exact (filesPlays_spec f s).walk W ⟨r0, r1⟩
end Go.Proofs.Ytogkncmhonomdaa
