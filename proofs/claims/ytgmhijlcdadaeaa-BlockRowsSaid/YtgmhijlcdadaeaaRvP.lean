/- The walk of the row of BlockRows. -/
import Derived.Test.YtgmhijlcdadaeaaRvK
import Derived.Test.YtgmhijlcdadaeaaComX
set_option linter.unusedVariables false
set_option linter.unusedSimpArgs false
set_option maxRecDepth 100000
namespace Go.Proofs.Ytgmhijlcdadaeaa
open Go Go.ChangeShapes Go.WideShapes Go.ChangeAt Go.RowKit
theorem cells_25_RvP : Try.prog.cellsOf 25 = 1 := by kernel_rfl
theorem bytes_25_RvP : 1 ≤ Try.prog.bytesOf 25 := of_decide_eq_true (by kernel_rfl)
theorem w4 (W : World) {b : Nat} (v0 v1 v2 : Value) (o0 : Value.okWide Try.prog W .any b 26 v0) (o1 : Value.okWide Try.prog W .any b 25 v1) (o2 : Value.okWide Try.prog W .any b 3 v2) (q0 : Rdd Try.prog W 26 v0.cells.toList) (q1 : Rdd Try.prog W 25 v1.cells.toList) (q2 : Rdd Try.prog W 3 v2.cells.toList) :
    Calls Try.prog 4 #[v0, v1, v2] W fun e w' => e = .returned (.bool true) ∧ Below W.heap.size W w' := by
  obtain ⟨s0, e0, r0, f0⟩ := Rdd.ints Try.underlying26 Try.underlying25 cells_25_RvP bytes_25_RvP q0
  obtain rfl := val_slice (w := W) Try.underlying26 o0 e0
  obtain ⟨n1, e1, f1⟩ := Rdd.int Try.underlying25 q1
  obtain rfl := val_int (w := W) Try.underlying25 o1 e1
  obtain ⟨n1, rfl, h1⟩ := wf_u32 f1
  obtain ⟨n2, e2, f2⟩ := Rdd.int Try.underlying3 q2
  obtain rfl := val_int (w := W) Try.underlying3 o2 e2
  obtain ⟨l2, h2⟩ := wf_i64 f2
  exact (blockRows_spec s0 n1 n2 (fun x hx => wf_u32 (f0 x hx)) h1).walk W r0
end Go.Proofs.Ytgmhijlcdadaeaa
