import Derived.Test.YtkjeidoplonkjaaZL12G
import Derived.Test.YtkjeidoplonkjaaZCpuR
set_option linter.unusedVariables false
set_option linter.unusedSimpArgs false
set_option maxRecDepth 100000
namespace Go.Proofs.Ytkjeidoplonkjaa
open Go Go.ChangeShapes Go.WideShapes Go.ChangeAt Go.RowKit
theorem cells_5_L12Rt : Try.prog.cellsOf 5 = 1 := by kernel_rfl
theorem bytes_5_L12Rt : 1 ≤ Try.prog.bytesOf 5 := of_decide_eq_true (by kernel_rfl)
theorem cells_25_L12Rt : Try.prog.cellsOf 25 = 1 := by kernel_rfl
theorem bytes_25_L12Rt : 1 ≤ Try.prog.bytesOf 25 := of_decide_eq_true (by kernel_rfl)
theorem w8 (W : World) {b : Nat} (v0 v1 v2 v3 : Value) (o0 : Value.okWide Try.prog W .any b 29 v0) (o1 : Value.okWide Try.prog W .any b 47 v1) (o2 : Value.okWide Try.prog W .any b 32 v2) (o3 : Value.okWide Try.prog W .any b 25 v3) (q0 : Rdd Try.prog W 29 v0.cells.toList) (q1 : Rdd Try.prog W 47 v1.cells.toList) (q2 : Rdd Try.prog W 32 v2.cells.toList) (q3 : Rdd Try.prog W 25 v3.cells.toList) :
    Calls Try.prog 8 #[v0, v1, v2, v3] W fun e w' => e = .returned (.bool true) ∧ Below W.heap.size W w' := by
  obtain ⟨s0, e0, r0, f0⟩ := Rdd.ints Try.underlying29 Try.underlying25 cells_25_L12Rt bytes_25_L12Rt q0
  obtain rfl := val_slice (w := W) Try.underlying29 o0 e0
  obtain ⟨s1, e1, r1⟩ := Rdd.u8s Try.underlying47 Try.underlying5 cells_5_L12Rt bytes_5_L12Rt q1
  obtain rfl := val_slice (w := W) Try.underlying47 o1 e1
  obtain ⟨s2, e2, r2⟩ := Rdd.stW q2
  obtain rfl := val_struct (w := W) Try.underlying32 o2 e2
  obtain ⟨n3, e3, f3⟩ := Rdd.int Try.underlying25 q3
  obtain rfl := val_int (w := W) Try.underlying25 o3 e3
  obtain ⟨n3, rfl, h3⟩ := wf_u32 f3
  exact (cpuZero_spec s0 s1 s2 n3 (fun x hx => wf_u32 (f0 x hx)) r2 h3).walk W ⟨r0, r1⟩
end Go.Proofs.Ytkjeidoplonkjaa
