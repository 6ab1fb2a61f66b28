/- The walk of the row of ShadowApart. -/
import Derived.Test.YtgmhijlcdadaeaaShL
import Derived.Test.YtgmhijlcdadaeaaComX
import Derived.Test.YtgmhijlcdadaeaaEngR2
set_option linter.unusedVariables false
set_option linter.unusedSimpArgs false
set_option maxRecDepth 100000
namespace Go.Proofs.Ytgmhijlcdadaeaa
open Go Go.ChangeShapes Go.WideShapes Go.ChangeAt Go.RowKit
theorem cells_5_ShRb : Try.prog.cellsOf 5 = 1 := by kernel_rfl
theorem bytes_5_ShRb : 1 ≤ Try.prog.bytesOf 5 := of_decide_eq_true (by kernel_rfl)
theorem w8 (W : World) {b : Nat} (v0 v1 v2 v3 v4 : Value) (o0 : Value.okWide Try.prog W .any b 38 v0) (o1 : Value.okWide Try.prog W .any b 25 v1) (o2 : Value.okWide Try.prog W .any b 38 v2) (o3 : Value.okWide Try.prog W .any b 3 v3) (o4 : Value.okWide Try.prog W .any b 25 v4) (q0 : Rdd Try.prog W 38 v0.cells.toList) (q1 : Rdd Try.prog W 25 v1.cells.toList) (q2 : Rdd Try.prog W 38 v2.cells.toList) (q3 : Rdd Try.prog W 3 v3.cells.toList) (q4 : Rdd Try.prog W 25 v4.cells.toList) :
    Calls Try.prog 8 #[v0, v1, v2, v3, v4] W fun e w' => e = .returned (.bool true) ∧ Below W.heap.size W w' := by
  obtain ⟨s0, e0, r0⟩ := Rdd.u8s Try.underlying38 Try.underlying5 cells_5_ShRb bytes_5_ShRb q0
  obtain rfl := val_slice (w := W) Try.underlying38 o0 e0
  obtain ⟨n1, e1, f1⟩ := Rdd.int Try.underlying25 q1
  obtain rfl := val_int (w := W) Try.underlying25 o1 e1
  obtain ⟨n1, rfl, h1⟩ := wf_u32 f1
  obtain ⟨s2, e2, r2⟩ := Rdd.u8s Try.underlying38 Try.underlying5 cells_5_ShRb bytes_5_ShRb q2
  obtain rfl := val_slice (w := W) Try.underlying38 o2 e2
  obtain ⟨n3, e3, f3⟩ := Rdd.int Try.underlying3 q3
  obtain rfl := val_int (w := W) Try.underlying3 o3 e3
  obtain ⟨l3, h3⟩ := wf_i64 f3
  obtain ⟨n4, e4, f4⟩ := Rdd.int Try.underlying25 q4
  obtain rfl := val_int (w := W) Try.underlying25 o4 e4
  obtain ⟨n4, rfl, h4⟩ := wf_u32 f4
  exact (shadowApart_spec s0 n1 s2 n3 n4 h1 l3 h3 h4).walk W ⟨r0, r2⟩
end Go.Proofs.Ytgmhijlcdadaeaa
