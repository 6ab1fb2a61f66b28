/- The walk of the row of FilesNumbers. -/
import Derived.Test.YtjjhihlmoecmlaaFilesJ
import Derived.Test.YtjjhihlmoecmlaaComR
set_option linter.unusedVariables false
set_option linter.unusedSimpArgs false
set_option maxRecDepth 100000
namespace Go.Proofs.Ytjjhihlmoecmlaa
open Go Go.ChangeShapes Go.WideShapes Go.ChangeAt Go.RowKit
theorem cells_3_FilesT : Try.prog.cellsOf 3 = 1 := by kernel_rfl
theorem bytes_3_FilesT : 1 ≤ Try.prog.bytesOf 3 := of_decide_eq_true (by kernel_rfl)
theorem w8 (W : World) {b : Nat} (v0 : Value) (o0 : Value.okWide Try.prog W .any b 22 v0) (q0 : Rdd Try.prog W 22 v0.cells.toList) :
    Calls Try.prog 8 #[v0] W fun e w' => e = .returned (.bool true) ∧ Below W.heap.size W w' := by
  obtain ⟨s0, e0, r0, f0⟩ := Rdd.ints Try.underlying22 Try.underlying3 cells_3_FilesT bytes_3_FilesT q0
  obtain rfl := val_slice (w := W) Try.underlying22 o0 e0
  exact (filesNumbers_spec s0).walk W r0
end Go.Proofs.Ytjjhihlmoecmlaa
