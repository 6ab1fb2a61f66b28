import Derived.Test.YtogkncmhonomdaaZFeedN
import Derived.Test.YtogkncmhonomdaaZFeedL
set_option linter.unusedVariables false
set_option linter.unusedSimpArgs false
set_option maxRecDepth 100000
namespace Go.Proofs.Ytogkncmhonomdaa
open Go
end Go.Proofs.Ytogkncmhonomdaa
