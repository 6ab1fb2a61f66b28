/- The walk of the row of FilesApart. -/
import Derived.Test.YtjjhihlmoecmlaaFilesL
import Derived.Test.YtjjhihlmoecmlaaComR
set_option linter.unusedVariables false
set_option linter.unusedSimpArgs false
set_option maxRecDepth 100000
namespace Go.Proofs.Ytjjhihlmoecmlaa
open Go Go.ChangeShapes Go.WideShapes Go.ChangeAt Go.RowKit
theorem cells_5_FilesU : Try.prog.cellsOf 5 = 1 := by kernel_rfl
theorem bytes_5_FilesU : 1 ≤ Try.prog.bytesOf 5 := of_decide_eq_true (by kernel_rfl)
theorem w6 (W : World) {b : Nat} (v0 v1 : Value) (o0 : Value.okWide Try.prog W .any b 26 v0) (o1 : Value.okWide Try.prog W .any b 3 v1) (q0 : Rdd Try.prog W 26 v0.cells.toList) (q1 : Rdd Try.prog W 3 v1.cells.toList) :
    Calls Try.prog 6 #[v0, v1] W fun e w' => e = .returned (.bool true) ∧ Below W.heap.size W w' := by
  obtain ⟨s0, e0, r0⟩ := Rdd.u8s Try.underlying26 Try.underlying5 cells_5_FilesU bytes_5_FilesU q0
  obtain rfl := val_slice (w := W) Try.underlying26 o0 e0
  obtain ⟨n1, e1, f1⟩ := Rdd.int Try.underlying3 q1
  obtain rfl := val_int (w := W) Try.underlying3 o1 e1
  obtain ⟨l1, h1⟩ := wf_i64 f1
  exact (filesApart_spec s0 n1).walk W r0
end Go.Proofs.Ytjjhihlmoecmlaa
