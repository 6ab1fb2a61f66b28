/- The walk of the row of MemApart. -/
import Derived.Test.YtgfbdiibndbbjaaIterH
import Derived.Test.YtgfbdiibndbbjaaComR
set_option linter.unusedVariables false
set_option linter.unusedSimpArgs false
set_option maxRecDepth 100000
namespace Go.Proofs.Ytgfbdiibndbbjaa
open Go Go.ChangeShapes Go.WideShapes Go.ChangeAt Go.RowKit
theorem cells_5_IterR : Try.prog.cellsOf 5 = 1 := by kernel_rfl
theorem bytes_5_IterR : 1 ≤ Try.prog.bytesOf 5 := of_decide_eq_true (by kernel_rfl)
theorem w12 (W : World) {b : Nat} (v0 v1 v2 : Value) (o0 : Value.okWide Try.prog W .any b 25 v0) (o1 : Value.okWide Try.prog W .any b 26 v1) (o2 : Value.okWide Try.prog W .any b 5 v2) (q0 : Rdd Try.prog W 25 v0.cells.toList) (q1 : Rdd Try.prog W 26 v1.cells.toList) (q2 : Rdd Try.prog W 5 v2.cells.toList) :
    Calls Try.prog 12 #[v0, v1, v2] W fun e w' => e = .returned (.bool true) ∧ Below W.heap.size W w' := by
  obtain ⟨s0, e0, r0⟩ := Rdd.u8s Try.underlying25 Try.underlying5 cells_5_IterR bytes_5_IterR q0
  obtain rfl := val_slice (w := W) Try.underlying25 o0 e0
  obtain ⟨n1, e1, f1⟩ := Rdd.int Try.underlying26 q1
  obtain rfl := val_int (w := W) Try.underlying26 o1 e1
  obtain ⟨n1, rfl, h1⟩ := wf_u32 f1
  obtain ⟨n2, e2, f2⟩ := Rdd.int Try.underlying5 q2
  obtain rfl := val_int (w := W) Try.underlying5 o2 e2
  obtain ⟨n2, rfl, h2⟩ := wf_u8 f2
  exact (memApart_spec s0 n1 n2 h1 h2).walk W r0
end Go.Proofs.Ytgfbdiibndbbjaa
