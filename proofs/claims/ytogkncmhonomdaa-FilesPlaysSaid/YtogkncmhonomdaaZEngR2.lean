import Derived.Test.YtogkncmhonomdaaZEngY
set_option linter.unusedVariables false
set_option linter.unusedSimpArgs false
namespace Go.Proofs.Ytogkncmhonomdaa
open Go Go.ChangeShapes Go.WideShapes Go.ChangeAt Go.RowKit
theorem Rdd.array {P : Program} {w : World} {t e : TypeId} {cs : List Value} {n : Nat} (hu : P.underlying t = some (.array n e)) (h : Rdd P w t cs) :
    cs.length = P.cellsOf t ∧ ∀ i, i < n → Rdd P w e ((cs.drop (i * P.cellsOf e)).take (P.cellsOf e)) := by
  obtain ⟨H, enc, base, spare, held, fuel, d, ps, h, hs⟩ := h
  obtain ⟨xs, m, rfl, h2, h3, h4, h5⟩ := DataW.trod_array hu h
  injection h2 with h2 _
  subst h2
  refine ⟨h3, fun i hi => ?_⟩
  have e1 : xs[i]? = some (xs[i]'(by omega)) := by simp [show i < xs.length by omega]
  refine ⟨H, enc, base, spare, held, m, (xs[i]'(by omega)).1, (xs[i]'(by omega)).2, (h5 i hi).trans e1, fun k hk => hs k ?_⟩
  rw [DataW.weights, hu]
  exact weightsAll_mem hk (List.mem_map.2 ⟨_, List.getElem_mem _, rfl⟩)
end Go.Proofs.Ytogkncmhonomdaa
