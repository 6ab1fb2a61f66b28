import Derived.Test.YtjfgefdcngpplaaZEngV2
import Derived.ChangeKeysEq
set_option linter.unusedVariables false
set_option linter.unusedSimpArgs false
namespace Go.Proofs.Ytjfgefdcngpplaa
open Go
section
variable {P : Program} {n : Nat} {cx : Cx} {ρ : Hp} {E : Env} {L : Own} {o : Oper}
end
end Go.Proofs.Ytjfgefdcngpplaa
