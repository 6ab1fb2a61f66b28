import Derived.Test.YtkjeidoplonkjaaZL12B
set_option linter.unusedVariables false
set_option linter.unusedSimpArgs false
set_option maxRecDepth 100000
namespace Go.Proofs.Ytkjeidoplonkjaa
open Go
def stEq (a b : StP) : Bool := decide (a.x = b.x) && (((a.pc : Int) == (b.pc : Int)) && ((a.ret == b.ret) && true))
end Go.Proofs.Ytkjeidoplonkjaa
