/- The walk of the row of ShadowNumbers. -/
import Derived.Test.YtgmhijlcdadaeaaShM
import Derived.Test.YtgmhijlcdadaeaaComX
import Derived.Test.YtgmhijlcdadaeaaEngR2
set_option linter.unusedVariables false
set_option linter.unusedSimpArgs false
set_option maxRecDepth 100000
namespace Go.Proofs.Ytgmhijlcdadaeaa
open Go Go.ChangeShapes Go.WideShapes Go.ChangeAt Go.RowKit
theorem cells_64_ShRc : Try.prog.cellsOf 64 = 4 := by kernel_rfl
theorem cells_5_ShRc : Try.prog.cellsOf 5 = 1 := by kernel_rfl
theorem bytes_5_ShRc : 1 ≤ Try.prog.bytesOf 5 := of_decide_eq_true (by kernel_rfl)
theorem w9 (W : World) {b : Nat} (v0 v1 v2 : Value) (o0 : Value.okWide Try.prog W .any b 25 v0) (o1 : Value.okWide Try.prog W .any b 64 v1) (o2 : Value.okWide Try.prog W .any b 3 v2) (q0 : Rdd Try.prog W 25 v0.cells.toList) (q1 : Rdd Try.prog W 64 v1.cells.toList) (q2 : Rdd Try.prog W 3 v2.cells.toList) :
    Calls Try.prog 9 #[v0, v1, v2] W fun e w' => e = .returned (.bool true) ∧ Below W.heap.size W w' := by
  obtain ⟨n0, e0, f0⟩ := Rdd.int Try.underlying25 q0
  obtain rfl := val_int (w := W) Try.underlying25 o0 e0
  obtain ⟨n0, rfl, h0⟩ := wf_u32 f0
  obtain ⟨s1, e1, r1⟩ := Rdd.arrB Try.underlying64 Try.underlying5 cells_5_ShRc cells_64_ShRc q1
  obtain rfl := val_array (w := W) Try.underlying64 o1 e1
  obtain ⟨n2, e2, f2⟩ := Rdd.int Try.underlying3 q2
  obtain rfl := val_int (w := W) Try.underlying3 o2 e2
  obtain ⟨l2, h2⟩ := wf_i64 f2
  exact (shadowNumbers_spec n0 s1 n2 h0 r1 l2 h2).walk W trivial
end Go.Proofs.Ytgmhijlcdadaeaa
