import Derived.Test.YtogkncmhonomdaaZFeedO
set_option linter.unusedVariables false
set_option linter.unusedSimpArgs false
set_option maxRecDepth 100000
namespace Go.Proofs.Ytogkncmhonomdaa
open Go
theorem filesV_snoc {xf : List FileG} {k : Nat} (hk : k < xf.length) : filesV (xf.take k) ++ [.string xf[k].name, xf[k].data.v] = filesV (xf.take (k + 1)) := by
  rw [List.take_add_one, List.getElem?_eq_getElem hk, filesV, filesV, List.flatMap_append]; rfl
end Go.Proofs.Ytogkncmhonomdaa
