import Derived.Test.YtjfgefdcngpplaaZBF
import Derived.Test.YtjfgefdcngpplaaZComX
set_option linter.unusedVariables false
set_option linter.unusedSimpArgs false
set_option maxRecDepth 100000
namespace Go.Proofs.Ytjfgefdcngpplaa
open Go Go.ChangeShapes Go.WideShapes Go.ChangeAt Go.RowKit
theorem cells_23_BFR : Try.prog.cellsOf 23 = 1 := by kernel_rfl
theorem bytes_23_BFR : 1 ≤ Try.prog.bytesOf 23 := of_decide_eq_true (by kernel_rfl)
theorem w3 (W : World) {b : Nat} (v0 v1 v2 v3 : Value) (o0 : Value.okWide Try.prog W .any b 22 v0) (o1 : Value.okWide Try.prog W .any b 23 v1) (o2 : Value.okWide Try.prog W .any b 3 v2) (o3 : Value.okWide Try.prog W .any b 3 v3) (q0 : Rdd Try.prog W 22 v0.cells.toList) (q1 : Rdd Try.prog W 23 v1.cells.toList) (q2 : Rdd Try.prog W 3 v2.cells.toList) (q3 : Rdd Try.prog W 3 v3.cells.toList) :
    Calls Try.prog 3 #[v0, v1, v2, v3] W fun e w' => e = .returned (.bool true) ∧ Below W.heap.size W w' := by
  obtain ⟨s0, e0, r0, f0⟩ := Rdd.ints Try.underlying22 Try.underlying23 cells_23_BFR bytes_23_BFR q0
  obtain rfl := val_slice (w := W) Try.underlying22 o0 e0
  obtain ⟨n1, e1, f1⟩ := Rdd.int Try.underlying23 q1
  obtain rfl := val_int (w := W) Try.underlying23 o1 e1
  obtain ⟨n1, rfl, h1⟩ := wf_u32 f1
  obtain ⟨n2, e2, f2⟩ := Rdd.int Try.underlying3 q2
  obtain rfl := val_int (w := W) Try.underlying3 o2 e2
  obtain ⟨l2, h2⟩ := wf_i64 f2
  obtain ⟨n3, e3, f3⟩ := Rdd.int Try.underlying3 q3
  obtain rfl := val_int (w := W) Try.underlying3 o3 e3
  obtain ⟨l3, h3⟩ := wf_i64 f3
  exact (blockFinds_spec s0 n1 n2 n3 (fun x hx => wf_u32 (f0 x hx)) h1).walk W r0
end Go.Proofs.Ytjfgefdcngpplaa
