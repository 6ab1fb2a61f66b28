import Derived.Test.YtkjeidoplonkjaaZL12C
import Derived.Test.YtkjeidoplonkjaaZComX
set_option linter.unusedVariables false
set_option linter.unusedSimpArgs false
set_option maxRecDepth 100000
namespace Go.Proofs.Ytkjeidoplonkjaa
open Go Go.ChangeShapes Go.WideShapes Go.ChangeAt Go.RowKit
theorem w5 (W : World) {b : Nat} (v0 v1 v2 : Value) (o0 : Value.okWide Try.prog W .any b 3 v0) (o1 : Value.okWide Try.prog W .any b 25 v1) (o2 : Value.okWide Try.prog W .any b 25 v2) (q0 : Rdd Try.prog W 3 v0.cells.toList) (q1 : Rdd Try.prog W 25 v1.cells.toList) (q2 : Rdd Try.prog W 25 v2.cells.toList) :
    Calls Try.prog 5 #[v0, v1, v2] W fun e w' => e = .returned (.bool true) ∧ Below W.heap.size W w' := by
  obtain ⟨n0, e0, f0⟩ := Rdd.int Try.underlying3 q0
  obtain rfl := val_int (w := W) Try.underlying3 o0 e0
  obtain ⟨l0, h0⟩ := wf_i64 f0
  obtain ⟨n1, e1, f1⟩ := Rdd.int Try.underlying25 q1
  obtain rfl := val_int (w := W) Try.underlying25 o1 e1
  obtain ⟨n1, rfl, h1⟩ := wf_u32 f1
  obtain ⟨n2, e2, f2⟩ := Rdd.int Try.underlying25 q2
  obtain rfl := val_int (w := W) Try.underlying25 o2 e2
  obtain ⟨n2, rfl, h2⟩ := wf_u32 f2
  exact (cpuBranches_spec n0 n1 n2 h1 h2).walk W trivial
end Go.Proofs.Ytkjeidoplonkjaa
