import Derived.Test.YtkjeidoplonkjaaZEngV4
import Derived.Test.YtkjeidoplonkjaaZEngW
import Derived.Test.YtkjeidoplonkjaaZEngV3
set_option linter.unusedVariables false
set_option linter.unusedSimpArgs false
namespace Go.Proofs.Ytkjeidoplonkjaa
open Go
theorem HasC.pt {b off : Nat} {cs : Array Value} {T : TypeId} {fr : Nat × Nat} {v : Value} (h : cs[off]? = some v) : HasC (Pt b (.cells cs T fr)) ⟨b, off, none⟩ v := fun k hk => by
  have hk : k b = some (.cells cs T fr) := hk
  simp [cellH, hk, h]
theorem spl_all {cur : Array Value} {cs : List Value} (h : cs.length = cur.size) : spl cur 0 cs = cs.toArray := by
  apply Array.ext_getElem?
  intro j
  rw [spl_get cs cur 0 j (by omega)]
  by_cases hj : j < cs.length
  · rw [if_pos ⟨Nat.zero_le _, by omega⟩]; simp
  · rw [if_neg (by omega)]
    have h1 : cur[j]? = none := by rw [Array.getElem?_eq_none_iff]; omega
    rw [h1]; simp; omega
section
variable {P : Program} {n : Nat} {cx : Cx} {ρ : Hp} {E : Env} {L : Own} {o : Oper} {ops : Array Oper} {Q : Exit → Act → World → Prop} {S : World → Prop} {π : List (Nat × Bool)} {i : Nat} {v : Value}
theorem Jp.storeAll (j : Nat) {x y : Operand} {t : TypeId} {b m : Nat} {cur : Array Value} {cs : List Value} {T : TypeId} {fr : Nat × Nat} (hi : nth ops.toList i = some o) (hw : Want n ops E o true) (he : o.dst = none)
    (hop : o.op = .store t x y) (hz : ∀ w, (sizeOf t).run P w = .ok m w) (hx : evE E x = some (.pointer (some ⟨b, 0, none⟩))) (hy : evE E y = some (.agg cs.toArray)) (h1' : cs.all one = true) (hm : cs.length = m)
    (hj : look L j = some (Pt b (.cells cur T fr))) (hlt' : cur.size = m) (hfr : ∀ k, 0 ≤ k → k < 0 + m → noFr fr k)
    (hk : Kp π S cx ρ ((j, Pt b (.cells cs.toArray T fr)) :: L)) (h : Jp P ops Q S n cx π ρ E ((j, Pt b (.cells cs.toArray T fr)) :: L)) :
    Jp P ops Q S n cx ((i, false) :: π) ρ E L := by
  have e := spl_all (cur := cur) (cs := cs) (by omega)
  refine Jp.storeAgg j hi hw he hop hz hx hy h1' hm hj (Nat.ble_eq_true_of_le (by omega)) hfr ?_ ?_
  · rw [e]; exact hk
  · rw [e]; exact h
theorem resTC (j : Nat) {fn : Func} {s u : Tmp} {t : TypeId} {b m : Nat} {cs : List Value} {T : TypeId} {fr : Nat × Nat} {x : Value} (h : fn.results = #[.tmp u, .cell s t]) (hu : look E u = some x) (he : look E s = some (.pointer (some ⟨b, 0, none⟩))) (hA : ∀ w, (isAgg t).run P w = .ok true w) (hz : ∀ w, (sizeOf t).run P w = .ok m w)
    (hj : look L j = some (Pt b (.cells cs.toArray T fr))) (hm : cs.length = m) : ∀ a w, At n E a → St cx ρ L w → (results fn a.tmps).run P w = .ok (.tuple #[x, .agg cs.toArray]) w := fun a w ha hs => by
  have h1 := ha.slot s _ he
  have h3 := ha.slot u _ hu
  have hb := hs.pt hj
  have hc : ∀ k v, cs[k]? = some v → w.cell? ((⟨b, 0, none⟩ : Addr).add k) = some v := fun k v e => by rw [add_mk]; simp [World.cell?, hb, e]
  subst hm
  have h2 : (loadVar t ⟨b, 0, none⟩).run P w = .ok (.agg cs.toArray) w := by
    simp only [loadVar, Sem.run_bind, Sem.run_pure, Result.andThen_ok, hA, hz, if_true, run_loadCells_list w _ cs hc]
  simp [results, h, h1, h3, asAddr, h2]
end
end Go.Proofs.Ytkjeidoplonkjaa
