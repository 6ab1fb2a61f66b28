import Derived.Test.YtgmhijlcdadaeaaZEngX
import Derived.Laws.StructEq
set_option linter.unusedVariables false
set_option linter.unusedSimpArgs false
namespace Go.Proofs.Ytgmhijlcdadaeaa
open Go
section
variable {P : Program} {n : Nat} {cx : Cx} {ρ : Hp} {E : Env} {L : Own} {o : Oper}
end
end Go.Proofs.Ytgmhijlcdadaeaa
