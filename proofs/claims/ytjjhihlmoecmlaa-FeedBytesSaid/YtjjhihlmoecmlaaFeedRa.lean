/- The walk of the row of FeedBytes. -/
import Derived.Test.YtjjhihlmoecmlaaFeedZC
import Derived.Test.YtjjhihlmoecmlaaFeedRd
set_option linter.unusedVariables false
set_option linter.unusedSimpArgs false
set_option maxRecDepth 100000
namespace Go.Proofs.Ytjjhihlmoecmlaa
open Go Go.ChangeShapes Go.WideShapes Go.ChangeAt Go.RowKit
theorem w10 (W : World) {b : Nat} (v0 v1 : Value) (o0 : Value.okWide Try.prog W .any b 26 v0) (o1 : Value.okWide Try.prog W .any b 35 v1) (q0 : Rdd Try.prog W 26 v0.cells.toList) (q1 : Rdd Try.prog W 35 v1.cells.toList) :
    Calls Try.prog 10 #[v0, v1] W fun e w' => e = .returned (.bool true) ∧ Below W.heap.size W w' := by
  obtain ⟨s0, e0, r0⟩ := Rdd.u8s Try.underlying26 Try.underlying5 fcells_u8 fbytes_u8 q0
  obtain ⟨f, e1, r1, c1⟩ := Rdd.feedW q1
  obtain rfl := val_slice (w := W) Try.underlying26 o0 e0
  obtain rfl := val_struct (w := W) Try.underlying35 o1 e1
  exact (feedBytes_spec s0 f c1).walk W ⟨r0, r1⟩
end Go.Proofs.Ytjjhihlmoecmlaa
