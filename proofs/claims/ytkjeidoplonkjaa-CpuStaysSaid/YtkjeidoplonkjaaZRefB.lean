import Derived.Test.YtkjeidoplonkjaaZRefA
set_option linter.unusedVariables false
set_option linter.unusedSimpArgs false
set_option maxRecDepth 100000
namespace Go.Proofs.Ytkjeidoplonkjaa
open Go
def stretchI (a n : Nat) : Int := match stretch a n with
  | none => -1
  | some p => p
end Go.Proofs.Ytkjeidoplonkjaa
