/- The walk of the row of ShadowFull. -/
import Derived.Test.YtgmhijlcdadaeaaShK
import Derived.Test.YtgmhijlcdadaeaaComX
import Derived.Test.YtgmhijlcdadaeaaEngR2
set_option linter.unusedVariables false
set_option linter.unusedSimpArgs false
set_option maxRecDepth 100000
namespace Go.Proofs.Ytgmhijlcdadaeaa
open Go Go.ChangeShapes Go.WideShapes Go.ChangeAt Go.RowKit
theorem cells_25_ShRa : Try.prog.cellsOf 25 = 1 := by kernel_rfl
theorem bytes_25_ShRa : 1 ≤ Try.prog.bytesOf 25 := of_decide_eq_true (by kernel_rfl)
theorem w7 (W : World) {b : Nat} (v0 v1 : Value) (o0 : Value.okWide Try.prog W .any b 3 v0) (o1 : Value.okWide Try.prog W .any b 26 v1) (q0 : Rdd Try.prog W 3 v0.cells.toList) (q1 : Rdd Try.prog W 26 v1.cells.toList) :
    Calls Try.prog 7 #[v0, v1] W fun e w' => e = .returned (.bool true) ∧ Below W.heap.size W w' := by
  obtain ⟨n0, e0, f0⟩ := Rdd.int Try.underlying3 q0
  obtain rfl := val_int (w := W) Try.underlying3 o0 e0
  obtain ⟨l0, h0⟩ := wf_i64 f0
  obtain ⟨s1, e1, r1, f1⟩ := Rdd.ints Try.underlying26 Try.underlying25 cells_25_ShRa bytes_25_ShRa q1
  obtain rfl := val_slice (w := W) Try.underlying26 o1 e1
  exact (shadowFull_spec n0 s1 (fun x hx => wf_u32 (f1 x hx))).walk W r1
end Go.Proofs.Ytgmhijlcdadaeaa
