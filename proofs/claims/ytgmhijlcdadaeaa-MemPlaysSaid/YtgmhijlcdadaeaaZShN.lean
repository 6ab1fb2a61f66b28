import Derived.Test.YtgmhijlcdadaeaaZShM
set_option linter.unusedVariables false
set_option linter.unusedSimpArgs false
set_option maxRecDepth 100000
namespace Go.Proofs.Ytgmhijlcdadaeaa
open Go
def labsP (l : List (Nat × Pg)) (a n : Nat) : Bytes := (List.range n).map fun i => labL l (a + i)
end Go.Proofs.Ytgmhijlcdadaeaa
