/- The walk of the row of FeedParts. -/
import Derived.Test.YtjjhihlmoecmlaaFeedL
import Derived.Test.YtjjhihlmoecmlaaFeedR
set_option linter.unusedVariables false
set_option linter.unusedSimpArgs false
set_option maxRecDepth 100000
namespace Go.Proofs.Ytjjhihlmoecmlaa
open Go Go.ChangeShapes Go.WideShapes Go.ChangeAt Go.RowKit
theorem w4 (W : World) {b : Nat} (v0 v1 : Value) (o0 : Value.okWide Try.prog W .any b 26 v0) (o1 : Value.okWide Try.prog W .any b 22 v1) (q0 : Rdd Try.prog W 26 v0.cells.toList) (q1 : Rdd Try.prog W 22 v1.cells.toList) :
    Calls Try.prog 4 #[v0, v1] W fun e w' => e = .returned (.bool true) ∧ Below W.heap.size W w' := by
  obtain ⟨s0, e0, r0⟩ := Rdd.u8s Try.underlying26 Try.underlying5 cells_5 bytes_5 q0
  obtain ⟨s1, e1, r1, _⟩ := Rdd.ints Try.underlying22 Try.underlying3 cells_3 bytes_3 q1
  obtain rfl := val_slice (w := W) Try.underlying26 o0 e0
  obtain rfl := val_slice (w := W) Try.underlying22 o1 e1
  exact (f4_spec s0 s1).walk W ⟨r0, r1⟩
end Go.Proofs.Ytjjhihlmoecmlaa
