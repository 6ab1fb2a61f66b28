import Derived.Test.YtgmhijlcdadaeaaZShF
set_option linter.unusedVariables false
set_option linter.unusedSimpArgs false
set_option maxRecDepth 100000
namespace Go.Proofs.Ytgmhijlcdadaeaa
open Go
def tagTo (S : ShG) (a i : Nat) : Bytes := (List.range 4).map fun j => if j < i then labL S.pages (a + j) else 0
end Go.Proofs.Ytgmhijlcdadaeaa
