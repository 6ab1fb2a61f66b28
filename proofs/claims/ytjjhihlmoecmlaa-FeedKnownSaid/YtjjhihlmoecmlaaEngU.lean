/- The small logic, part twenty: results of which the first lies in a cell. -/
import Derived.Test.YtjjhihlmoecmlaaEngE
set_option linter.unusedVariables false
set_option linter.unusedSimpArgs false
namespace Go.Proofs.Ytjjhihlmoecmlaa
open Go
section
variable {P : Program} {n : Nat} {cx : Cx} {ρ : Hp} {E : Env} {L : Own}
theorem resC2 (j : Nat) {fn : Func} {s u : Tmp} {t : TypeId} {b m : Nat} {cs : List Value} {T : TypeId} {fr : Nat × Nat} {x : Value} (h : fn.results = #[.cell s t, .tmp u]) (he : look E s = some (.pointer (some ⟨b, 0, none⟩))) (hA : ∀ w, (isAgg t).run P w = .ok true w) (hz : ∀ w, (sizeOf t).run P w = .ok m w)
    (hj : look L j = some (Pt b (.cells cs.toArray T fr))) (hm : cs.length = m) (hu : look E u = some x) : ∀ a w, At n E a → St cx ρ L w → (results fn a.tmps).run P w = .ok (.tuple #[.agg cs.toArray, x]) w := fun a w ha hs => by
  have h1 := ha.slot s _ he
  have h3 := ha.slot u _ hu
  have hb := hs.pt hj
  have hc : ∀ k v, cs[k]? = some v → w.cell? ((⟨b, 0, none⟩ : Addr).add k) = some v := fun k v e => by rw [add_mk]; simp [World.cell?, hb, e]
  subst hm
  have h2 : (loadVar t ⟨b, 0, none⟩).run P w = .ok (.agg cs.toArray) w := by
    simp only [loadVar, Sem.run_bind, Sem.run_pure, Result.andThen_ok, hA, hz, if_true, run_loadCells_list w _ cs hc]
  simp [results, h, h1, h3, asAddr, h2]
end
end Go.Proofs.Ytjjhihlmoecmlaa
