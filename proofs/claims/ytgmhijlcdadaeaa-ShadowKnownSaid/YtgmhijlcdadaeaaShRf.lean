/- The walk of the row of ShadowKnown. -/
import Derived.Test.YtgmhijlcdadaeaaShQ
import Derived.Test.YtgmhijlcdadaeaaComX
import Derived.Test.YtgmhijlcdadaeaaEngR2
set_option linter.unusedVariables false
set_option linter.unusedSimpArgs false
set_option maxRecDepth 100000
namespace Go.Proofs.Ytgmhijlcdadaeaa
open Go Go.ChangeShapes Go.WideShapes Go.ChangeAt Go.RowKit
theorem w12 (W : World) :
    Calls Try.prog 12 #[] W fun e w' => e = .returned (.bool true) ∧ Below W.heap.size W w' := by
  exact (shadowKnown_spec).walk W trivial
end Go.Proofs.Ytgmhijlcdadaeaa
