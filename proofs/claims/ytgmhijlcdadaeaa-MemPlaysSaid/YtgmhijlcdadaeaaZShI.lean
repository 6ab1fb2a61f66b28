import Derived.Test.YtgmhijlcdadaeaaZShI0
import Derived.Test.YtgmhijlcdadaeaaZSortX2
set_option linter.unusedVariables false
set_option linter.unusedSimpArgs false
set_option maxRecDepth 100000
namespace Go.Proofs.Ytgmhijlcdadaeaa
open Go
def shCapO (cb pb : Nat) : HProp := Pt cb (.cells #[.map (some pb)] 116)
def shKfn (cb : Nat) : Value := .func (.func 112) #[] #[.pointer (some ⟨cb, 0, none⟩)]
end Go.Proofs.Ytgmhijlcdadaeaa
