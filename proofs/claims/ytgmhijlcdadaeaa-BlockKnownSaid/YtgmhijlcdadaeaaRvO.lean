/- The walk of the row of BlockKnown. -/
import Derived.Test.YtgmhijlcdadaeaaRvN
import Derived.Test.YtgmhijlcdadaeaaComX
set_option linter.unusedVariables false
set_option linter.unusedSimpArgs false
set_option maxRecDepth 100000
namespace Go.Proofs.Ytgmhijlcdadaeaa
open Go Go.ChangeShapes Go.WideShapes Go.ChangeAt Go.RowKit
theorem w3 (W : World) :
    Calls Try.prog 3 #[] W fun e w' => e = .returned (.bool true) ∧ Below W.heap.size W w' := by
  exact (blockKnown_spec).walk W trivial
end Go.Proofs.Ytgmhijlcdadaeaa
