/- The walk of the row of FilesWhole. -/
import Derived.Test.YtjjhihlmoecmlaaFilesI
import Derived.Test.YtjjhihlmoecmlaaComR
set_option linter.unusedVariables false
set_option linter.unusedSimpArgs false
set_option maxRecDepth 100000
namespace Go.Proofs.Ytjjhihlmoecmlaa
open Go Go.ChangeShapes Go.WideShapes Go.ChangeAt Go.RowKit
theorem cells_3_FilesS : Try.prog.cellsOf 3 = 1 := by kernel_rfl
theorem bytes_3_FilesS : 1 ≤ Try.prog.bytesOf 3 := of_decide_eq_true (by kernel_rfl)
theorem cells_5_FilesS : Try.prog.cellsOf 5 = 1 := by kernel_rfl
theorem bytes_5_FilesS : 1 ≤ Try.prog.bytesOf 5 := of_decide_eq_true (by kernel_rfl)
theorem w7 (W : World) {b : Nat} (v0 v1 v2 : Value) (o0 : Value.okWide Try.prog W .any b 26 v0) (o1 : Value.okWide Try.prog W .any b 22 v1) (o2 : Value.okWide Try.prog W .any b 3 v2) (q0 : Rdd Try.prog W 26 v0.cells.toList) (q1 : Rdd Try.prog W 22 v1.cells.toList) (q2 : Rdd Try.prog W 3 v2.cells.toList) :
    Calls Try.prog 7 #[v0, v1, v2] W fun e w' => e = .returned (.bool true) ∧ Below W.heap.size W w' := by
  obtain ⟨s0, e0, r0⟩ := Rdd.u8s Try.underlying26 Try.underlying5 cells_5_FilesS bytes_5_FilesS q0
  obtain rfl := val_slice (w := W) Try.underlying26 o0 e0
  obtain ⟨s1, e1, r1, f1⟩ := Rdd.ints Try.underlying22 Try.underlying3 cells_3_FilesS bytes_3_FilesS q1
  obtain rfl := val_slice (w := W) Try.underlying22 o1 e1
  obtain ⟨n2, e2, f2⟩ := Rdd.int Try.underlying3 q2
  obtain rfl := val_int (w := W) Try.underlying3 o2 e2
  obtain ⟨l2, h2⟩ := wf_i64 f2
  exact (filesWhole_spec s0 s1 n2).walk W ⟨r0, r1⟩
end Go.Proofs.Ytjjhihlmoecmlaa
