/- The walk of the row of MemKnown. -/
import Derived.Test.YtgfbdiibndbbjaaIterK
import Derived.Test.YtgfbdiibndbbjaaComR
set_option linter.unusedVariables false
set_option linter.unusedSimpArgs false
set_option maxRecDepth 100000
namespace Go.Proofs.Ytgfbdiibndbbjaa
open Go Go.ChangeShapes Go.WideShapes Go.ChangeAt Go.RowKit
theorem w13 (W : World) :
    Calls Try.prog 13 #[] W fun e w' => e = .returned (.bool true) ∧ Below W.heap.size W w' := by
  exact (memKnown_spec).walk W trivial
end Go.Proofs.Ytgfbdiibndbbjaa
