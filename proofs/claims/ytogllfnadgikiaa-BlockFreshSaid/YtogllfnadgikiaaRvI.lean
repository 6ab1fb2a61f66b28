/- The walk of the row of BlockFresh. -/
import Derived.Test.YtogllfnadgikiaaRvH
import Derived.Test.YtogllfnadgikiaaComX
set_option linter.unusedVariables false
set_option linter.unusedSimpArgs false
set_option maxRecDepth 100000
namespace Go.Proofs.Ytogllfnadgikiaa
open Go Go.ChangeShapes Go.WideShapes Go.ChangeAt Go.RowKit
theorem cells_3_RvI : Try.prog.cellsOf 3 = 1 := by kernel_rfl
theorem bytes_3_RvI : 1 ≤ Try.prog.bytesOf 3 := of_decide_eq_true (by kernel_rfl)
theorem cells_25_RvI : Try.prog.cellsOf 25 = 1 := by kernel_rfl
theorem bytes_25_RvI : 1 ≤ Try.prog.bytesOf 25 := of_decide_eq_true (by kernel_rfl)
theorem w6 (W : World) {b : Nat} (v0 v1 : Value) (o0 : Value.okWide Try.prog W .any b 26 v0) (o1 : Value.okWide Try.prog W .any b 46 v1) (q0 : Rdd Try.prog W 26 v0.cells.toList) (q1 : Rdd Try.prog W 46 v1.cells.toList) :
    Calls Try.prog 6 #[v0, v1] W fun e w' => e = .returned (.bool true) ∧ Below W.heap.size W w' := by
  obtain ⟨s0, e0, r0, f0⟩ := Rdd.ints Try.underlying26 Try.underlying25 cells_25_RvI bytes_25_RvI q0
  obtain rfl := val_slice (w := W) Try.underlying26 o0 e0
  obtain ⟨s1, e1, r1, f1⟩ := Rdd.ints Try.underlying46 Try.underlying3 cells_3_RvI bytes_3_RvI q1
  obtain rfl := val_slice (w := W) Try.underlying46 o1 e1
  exact (blockFresh_spec s0 s1 (fun x hx => wf_u32 (f0 x hx))).walk W ⟨r0, r1⟩
end Go.Proofs.Ytogllfnadgikiaa
