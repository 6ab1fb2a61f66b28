import Derived.Test.YtkjeidoplonkjaaZL12E
import Derived.Test.YtkjeidoplonkjaaZComX
set_option linter.unusedVariables false
set_option linter.unusedSimpArgs false
set_option maxRecDepth 100000
namespace Go.Proofs.Ytkjeidoplonkjaa
open Go Go.ChangeShapes Go.WideShapes Go.ChangeAt Go.RowKit
theorem w6 (W : World) {b : Nat} (v0 v1 : Value) (o0 : Value.okWide Try.prog W .any b 25 v0) (o1 : Value.okWide Try.prog W .any b 21 v1) (q0 : Rdd Try.prog W 25 v0.cells.toList) (q1 : Rdd Try.prog W 21 v1.cells.toList) :
    Calls Try.prog 6 #[v0, v1] W fun e w' => e = .returned (.bool true) ∧ Below W.heap.size W w' := by
  obtain ⟨n0, e0, f0⟩ := Rdd.int Try.underlying25 q0
  obtain rfl := val_int (w := W) Try.underlying25 o0 e0
  obtain ⟨n0, rfl, h0⟩ := wf_u32 f0
  obtain ⟨n1, e1, f1⟩ := Rdd.int Try.underlying21 q1
  obtain rfl := val_int (w := W) Try.underlying21 o1 e1
  obtain ⟨l1, h1⟩ := wf_i32 f1
  exact (cpuMoves_spec n0 n1 h0).walk W trivial
end Go.Proofs.Ytkjeidoplonkjaa
