import Derived.Test.YtkjeidoplonkjaaZCpuR
set_option linter.unusedVariables false
set_option linter.unusedSimpArgs false
set_option maxRecDepth 100000
namespace Go.Proofs.Ytkjeidoplonkjaa
open Go Go.ChangeShapes Go.WideShapes Go.ChangeAt Go.RowKit
theorem w4 (W : World) {b : Nat} (v0 v1 v2 v3 v4 : Value) (o0 : Value.okWide Try.prog W .any b 3 v0) (o1 : Value.okWide Try.prog W .any b 3 v1) (o2 : Value.okWide Try.prog W .any b 3 v2) (o3 : Value.okWide Try.prog W .any b 3 v3) (o4 : Value.okWide Try.prog W .any b 32 v4) (q0 : Rdd Try.prog W 3 v0.cells.toList) (q1 : Rdd Try.prog W 3 v1.cells.toList) (q2 : Rdd Try.prog W 3 v2.cells.toList) (q3 : Rdd Try.prog W 3 v3.cells.toList) (q4 : Rdd Try.prog W 32 v4.cells.toList) :
    Calls Try.prog 4 #[v0, v1, v2, v3, v4] W fun e w' => e = .returned (.bool true) ∧ Below W.heap.size W w' := by
  obtain ⟨n0, e0, f0⟩ := Rdd.int Try.underlying3 q0
  obtain rfl := val_int (w := W) Try.underlying3 o0 e0
  obtain ⟨l0, h0⟩ := wf_i64 f0
  obtain ⟨n1, e1, f1⟩ := Rdd.int Try.underlying3 q1
  obtain rfl := val_int (w := W) Try.underlying3 o1 e1
  obtain ⟨l1, h1⟩ := wf_i64 f1
  obtain ⟨n2, e2, f2⟩ := Rdd.int Try.underlying3 q2
  obtain rfl := val_int (w := W) Try.underlying3 o2 e2
  obtain ⟨l2, h2⟩ := wf_i64 f2
  obtain ⟨n3, e3, f3⟩ := Rdd.int Try.underlying3 q3
  obtain rfl := val_int (w := W) Try.underlying3 o3 e3
  obtain ⟨l3, h3⟩ := wf_i64 f3
  obtain ⟨s4, e4, r4⟩ := Rdd.stW q4
  obtain rfl := val_struct (w := W) Try.underlying32 o4 e4
  exact (cpuSums_spec n0 n1 n2 n3 s4 r4).walk W trivial
end Go.Proofs.Ytkjeidoplonkjaa
