import Derived.Test.YtgmhijlcdadaeaaZShI
set_option linter.unusedVariables false
set_option linter.unusedSimpArgs false
set_option maxRecDepth 100000
namespace Go.Proofs.Ytgmhijlcdadaeaa
open Go
theorem ShO.ok {b : Nat} {S : ShG} : ∀ h, ShO b S h → ShOk S.pages ∧ S.pages.length ≤ S.budget := fun h ⟨x, hf, _⟩ => ⟨hf.ok, hf.room⟩
def awS : ShG := (fillM ⟨1, []⟩ 5 1 1).2
end Go.Proofs.Ytgmhijlcdadaeaa
