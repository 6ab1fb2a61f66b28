/- The walks of the rows of StackBuilds, StackKnown. -/
import Derived.Test.YtgfbdiibndbbjaaStackX3
import Derived.Test.YtgfbdiibndbbjaaComX
set_option linter.unusedVariables false
set_option linter.unusedSimpArgs false
set_option maxRecDepth 100000
namespace Go.Proofs.Ytgfbdiibndbbjaa
open Go Go.ChangeShapes Go.WideShapes Go.ChangeAt Go.RowKit
theorem cells_9_StackQ : Try.prog.cellsOf 9 = 1 := by kernel_rfl
theorem bytes_9_StackQ : 1 ≤ Try.prog.bytesOf 9 := of_decide_eq_true (by kernel_rfl)
theorem w11 (W : World) {b : Nat} (v0 : Value) (o0 : Value.okWide Try.prog W .any b 22 v0) (q0 : Rdd Try.prog W 22 v0.cells.toList) :
    Calls Try.prog 11 #[v0] W fun e w' => e = .returned (.bool true) ∧ Below W.heap.size W w' := by
  obtain ⟨s0, e0, r0⟩ := Rdd.strs Try.underlying22 Try.underlying9 cells_9_StackQ bytes_9_StackQ q0
  obtain rfl := val_slice (w := W) Try.underlying22 o0 e0
  exact (stackBuilds_spec s0).walk W r0
theorem w10 (W : World) :
    Calls Try.prog 10 #[] W fun e w' => e = .returned (.bool true) ∧ Below W.heap.size W w' := by
  exact (stackKnown_spec).walk W trivial
end Go.Proofs.Ytgfbdiibndbbjaa
