import Derived.Test.YtgmhijlcdadaeaaZShL
set_option linter.unusedVariables false
set_option linter.unusedSimpArgs false
set_option maxRecDepth 100000
namespace Go.Proofs.Ytgmhijlcdadaeaa
open Go
theorem Pt.hasC {b off : Nat} {cs : Array Value} {T : TypeId} {fr : Nat × Nat} {v : Value} (h : cs[off]? = some v) : HasC (Pt b (.cells cs T fr)) ⟨b, off, none⟩ v := fun k hk => by
  have hk : k b = some (.cells cs T fr) := hk
  simp [cellH, hk, h]
end Go.Proofs.Ytgmhijlcdadaeaa
