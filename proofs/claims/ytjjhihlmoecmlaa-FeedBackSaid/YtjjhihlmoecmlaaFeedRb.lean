/- The walk of the row of FeedBack. -/
import Derived.Test.YtjjhihlmoecmlaaFeedZD
import Derived.Test.YtjjhihlmoecmlaaFeedRd
set_option linter.unusedVariables false
set_option linter.unusedSimpArgs false
set_option maxRecDepth 100000
namespace Go.Proofs.Ytjjhihlmoecmlaa
open Go Go.ChangeShapes Go.WideShapes Go.ChangeAt Go.RowKit
theorem w11 (W : World) {b : Nat} (v0 v1 v2 : Value) (o0 : Value.okWide Try.prog W .any b 35 v0) (o1 : Value.okWide Try.prog W .any b 3 v1) (o2 : Value.okWide Try.prog W .any b 26 v2) (q0 : Rdd Try.prog W 35 v0.cells.toList) (q1 : Rdd Try.prog W 3 v1.cells.toList) (q2 : Rdd Try.prog W 26 v2.cells.toList) :
    Calls Try.prog 11 #[v0, v1, v2] W fun e w' => e = .returned (.bool true) ∧ Below W.heap.size W w' := by
  obtain ⟨f, e0, r0, c0⟩ := Rdd.feedW q0
  obtain ⟨n, e1, f1⟩ := Rdd.int Try.underlying3 q1
  obtain ⟨s2, e2, r2⟩ := Rdd.u8s Try.underlying26 Try.underlying5 fcells_u8 fbytes_u8 q2
  obtain rfl := val_struct (w := W) Try.underlying35 o0 e0
  obtain rfl := val_int (w := W) Try.underlying3 o1 e1
  obtain rfl := val_slice (w := W) Try.underlying26 o2 e2
  obtain ⟨l1, l2⟩ := wf_i64 f1
  exact (feedBack_spec f n s2 c0 l1 l2).walk W ⟨r0, r2⟩
end Go.Proofs.Ytjjhihlmoecmlaa
