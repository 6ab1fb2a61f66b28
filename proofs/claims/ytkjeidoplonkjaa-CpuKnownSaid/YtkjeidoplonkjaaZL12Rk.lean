import Derived.Test.YtkjeidoplonkjaaZL12D
import Derived.Test.YtkjeidoplonkjaaZComX
set_option linter.unusedVariables false
set_option linter.unusedSimpArgs false
set_option maxRecDepth 100000
namespace Go.Proofs.Ytkjeidoplonkjaa
open Go Go.ChangeShapes Go.WideShapes Go.ChangeAt Go.RowKit
theorem w3 (W : World) :
    Calls Try.prog 3 #[] W fun e w' => e = .returned (.bool true) ∧ Below W.heap.size W w' := by
  exact (cpuKnown_spec).walk W trivial
end Go.Proofs.Ytkjeidoplonkjaa
