/- The walk of the row of FeedKnown. -/
import Derived.Test.YtjjhihlmoecmlaaFeedZE
import Derived.Test.YtjjhihlmoecmlaaEngR
set_option linter.unusedVariables false
set_option linter.unusedSimpArgs false
set_option maxRecDepth 100000
namespace Go.Proofs.Ytjjhihlmoecmlaa
open Go Go.ChangeShapes Go.WideShapes Go.ChangeAt Go.RowKit
theorem w13 (W : World) :
    Calls Try.prog 13 #[] W fun e w' => e = .returned (.bool true) ∧ Below W.heap.size W w' := by
  exact (feedKnown_spec).walk W trivial
end Go.Proofs.Ytjjhihlmoecmlaa
