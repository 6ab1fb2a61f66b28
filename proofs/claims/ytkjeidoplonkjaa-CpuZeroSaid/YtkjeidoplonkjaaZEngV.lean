import Derived.Test.YtkjeidoplonkjaaZEngX
set_option linter.unusedVariables false
set_option linter.unusedSimpArgs false
namespace Go.Proofs.Ytkjeidoplonkjaa
open Go
section
variable {P : Program} {n : Nat} {cx : Cx} {ρ : Hp} {E : Env} {L : Own}
theorem resCC (j k : Nat) {fn : Func} {s s' : Tmp} {t t' : TypeId} {b b' m m' : Nat} {cs cs' : List Value} {T T' : TypeId} {fr fr' : Nat × Nat} (h : fn.results = #[.cell s t, .cell s' t']) (he : look E s = some (.pointer (some ⟨b, 0, none⟩))) (he' : look E s' = some (.pointer (some ⟨b', 0, none⟩)))
    (hA : ∀ w, (isAgg t).run P w = .ok true w) (hz : ∀ w, (sizeOf t).run P w = .ok m w) (hA' : ∀ w, (isAgg t').run P w = .ok true w) (hz' : ∀ w, (sizeOf t').run P w = .ok m' w)
    (hj : look L j = some (Pt b (.cells cs.toArray T fr))) (hm : cs.length = m) (hk : look L k = some (Pt b' (.cells cs'.toArray T' fr'))) (hm' : cs'.length = m') : ∀ a w, At n E a → St cx ρ L w → (results fn a.tmps).run P w = .ok (.tuple #[.agg cs.toArray, .agg cs'.toArray]) w := fun a w ha hs => by
  have h1 := ha.slot s _ he
  have h3 := ha.slot s' _ he'
  have hb := hs.pt hj
  have hb' := hs.pt hk
  have hc : ∀ k v, cs[k]? = some v → w.cell? ((⟨b, 0, none⟩ : Addr).add k) = some v := fun k v e => by rw [add_mk]; simp [World.cell?, hb, e]
  have hc' : ∀ k v, cs'[k]? = some v → w.cell? ((⟨b', 0, none⟩ : Addr).add k) = some v := fun k v e => by rw [add_mk]; simp [World.cell?, hb', e]
  subst hm hm'
  have h2 : (loadVar t ⟨b, 0, none⟩).run P w = .ok (.agg cs.toArray) w := by
    simp only [loadVar, Sem.run_bind, Sem.run_pure, Result.andThen_ok, hA, hz, if_true, run_loadCells_list w _ cs hc]
  have h4 : (loadVar t' ⟨b', 0, none⟩).run P w = .ok (.agg cs'.toArray) w := by
    simp only [loadVar, Sem.run_bind, Sem.run_pure, Result.andThen_ok, hA', hz', if_true, run_loadCells_list w _ cs' hc']
  simp [results, h, h1, h3, asAddr, h2, h4]
end
end Go.Proofs.Ytkjeidoplonkjaa
