import Derived.Test.YtkjeidoplonkjaaZL12F
set_option linter.unusedVariables false
set_option linter.unusedSimpArgs false
set_option maxRecDepth 100000
namespace Go.Proofs.Ytkjeidoplonkjaa
open Go
end Go.Proofs.Ytkjeidoplonkjaa
