import Derived.Test.YtgmhijlcdadaeaaZEngX
import Derived.Laws.StructEq
set_option linter.unusedVariables false
set_option linter.unusedSimpArgs false
namespace Go.Proofs.Ytgmhijlcdadaeaa
open Go
section
variable {P : Program} {n : Nat} {cx : Cx} {ρ : Hp} {E : Env} {L : Own} {o : Oper}
theorem part_int {e : TypeId} {xs : Array Value} {off : Nat} {v : Value} {w : World} (hA : ∀ w, (isAgg e).run P w = .ok false w) (hx : xs[off]? = some v) : (part e xs off).run P w = .ok v w := by
  simp only [part, Sem.run_bind, hA, Result.andThen_ok, Bool.false_eq_true, if_false, hx, Sem.run_pure]
end
end Go.Proofs.Ytgmhijlcdadaeaa
