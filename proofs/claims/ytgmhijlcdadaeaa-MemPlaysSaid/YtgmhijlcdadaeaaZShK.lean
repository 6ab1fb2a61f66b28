import Derived.Test.YtgmhijlcdadaeaaZShJ
set_option linter.unusedVariables false
set_option linter.unusedSimpArgs false
set_option maxRecDepth 100000
namespace Go.Proofs.Ytgmhijlcdadaeaa
open Go
end Go.Proofs.Ytgmhijlcdadaeaa
