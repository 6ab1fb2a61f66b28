import Derived.Test.YtgmhijlcdadaeaaZShK
set_option linter.unusedVariables false
set_option linter.unusedSimpArgs false
set_option maxRecDepth 100000
namespace Go.Proofs.Ytgmhijlcdadaeaa
open Go
theorem setM_ok {S : ShG} (h : ShOk S.pages) {a : Nat} (bs : Bytes) (ha : a ≤ 4294967296) : ShOk (setM S a bs).2.pages := by
  unfold setM
  split
  · exact h
  · exact lay_ok h (by rw [List.length_take]; omega)
end Go.Proofs.Ytgmhijlcdadaeaa
