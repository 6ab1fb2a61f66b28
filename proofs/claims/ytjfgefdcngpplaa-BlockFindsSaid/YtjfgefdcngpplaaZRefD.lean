import Derived.Test.YtjfgefdcngpplaaZRefC
set_option linter.unusedVariables false
set_option linter.unusedSimpArgs false
set_option maxRecDepth 100000
namespace Go.Proofs.Ytjfgefdcngpplaa
open Go
end Go.Proofs.Ytjfgefdcngpplaa
