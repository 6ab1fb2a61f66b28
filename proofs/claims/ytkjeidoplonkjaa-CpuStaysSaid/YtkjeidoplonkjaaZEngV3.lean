import Derived.Test.YtkjeidoplonkjaaZEngV2
import Derived.ChangeKeysEq
set_option linter.unusedVariables false
set_option linter.unusedSimpArgs false
namespace Go.Proofs.Ytkjeidoplonkjaa
open Go
section
variable {P : Program} {n : Nat} {cx : Cx} {ρ : Hp} {E : Env} {L : Own} {o : Oper}
theorem eqItems_int {d : Nat} {e : TypeId} {k k' : IntKind} (hA : ∀ w, (isAgg e).run P w = .ok false w) (ht : P.underlying e = some (.int k')) (l m : List Int) (w : World) : ∀ is : List Nat, (∀ i ∈ is, i < l.length ∧ i < m.length) →
    (Op.eqItems (d + 1) e 1 (l.map (Value.int k)).toArray (m.map (Value.int k)).toArray is).run P w = .ok (is.all fun i => l.getD i 0 == m.getD i 0) w
  | [], _ => by simp [Op.eqItems, Sem.run_pure]
  | i :: is, h => by
    obtain ⟨h1, h2⟩ := h i (List.mem_cons_self ..)
    have p1 : (part e (l.map (Value.int k)).toArray (i * 1)).run P w = .ok (.int k (l.getD i 0)) w := part_int hA (by simp [h1, List.getD_eq_getElem?_getD])
    have p2 : (part e (m.map (Value.int k)).toArray (i * 1)).run P w = .ok (.int k (m.getD i 0)) w := part_int hA (by simp [h2, List.getD_eq_getElem?_getD])
    have ih := eqItems_int (d := d) (k := k) hA ht l m w is fun j hj => h j (List.mem_cons_of_mem _ hj)
    simp only [Op.eqItems, Sem.run_bind, p1, p2, Result.andThen_ok, run_equalIn_int w d e k k' _ _ ht, List.all_cons]
    cases hab : (l.getD i 0 == m.getD i 0) <;> simp [ih, Sem.run_pure]
theorem all_eq {l m : List Int} {n : Nat} (h1 : l.length = n) (h2 : m.length = n) : ((List.range n).all fun i => l.getD i 0 == m.getD i 0) = decide (l = m) := by
  rw [Bool.eq_iff_iff, List.all_eq_true, decide_eq_true_eq]
  constructor
  · intro h
    apply List.ext_getElem (by omega)
    intro i hi1 hi2
    have := h i (List.mem_range.2 (by omega))
    simpa [List.getD_eq_getElem?_getD, hi1, hi2] using this
  · intro h i _; subst h; simp
theorem equal_arr {d : Nat} {t e : TypeId} {k k' : IntKind} {len : Nat} {l m : List Int} (hu : P.underlying t = some (.array len e)) (hi : (P.info? e).isSome = true) (hc : P.cellsOf e = 1) (hA : ∀ w, (isAgg e).run P w = .ok false w) (ht : P.underlying e = some (.int k')) (h1 : l.length = len) (h2 : m.length = len) (w : World) :
    (Op.equalIn (d + 2) t (.agg (l.map (Value.int k)).toArray) (.agg (m.map (Value.int k)).toArray)).run P w = .ok (decide (l = m)) w := by
  obtain ⟨i, hi⟩ := Option.isSome_iff_exists.1 hi
  rw [run_equalIn_array w (d + 1) _ _ hu hi, hc, eqItems_int hA ht l m w _ (fun j hj => by have := List.mem_range.1 hj; omega), all_eq h1 h2]
theorem eqFields_any {d : Nat} {xs ys : Array Value} {f : Field} {fs : List Field} {vx vy : Value} {r1 r : Bool} {w : World} (hn : f.name ≠ "_") (hx : (part f.type xs f.offset).run P w = .ok vx w) (hy : (part f.type ys f.offset).run P w = .ok vy w) (he : (Op.equalIn d f.type vx vy).run P w = .ok r1 w)
    (hr : (Op.eqFields d xs ys fs).run P w = .ok r w) : (Op.eqFields d xs ys (f :: fs)).run P w = .ok (r1 && r) w := by
  simp only [Op.eqFields, Sem.run_bind, Sem.run_ite, hn, ne_eq, not_false_eq_true, if_true, hx, hy, Result.andThen_ok, he]
  cases r1 <;> simp [hr, Sem.run_pure]
end
theorem bytesV_int (b : List UInt8) : bytesV b = (b.map fun x => (x.toNat : Int)).map (Value.int .u8) := by
  rw [bytesV, List.map_map]; rfl
theorem bytes_dec (a b : List UInt8) : decide ((a.map fun x : UInt8 => (x.toNat : Int)) = b.map fun x => (x.toNat : Int)) = decide (a = b) := by
  rw [Bool.eq_iff_iff, decide_eq_true_eq, decide_eq_true_eq]
  constructor
  · intro h
    have h2 := congrArg (List.map fun z : Int => UInt8.ofNat z.toNat) h
    rw [List.map_map, List.map_map] at h2
    have e : ((fun z : Int => UInt8.ofNat z.toNat) ∘ fun x : UInt8 => (x.toNat : Int)) = id := by funext x; simp
    rwa [e, List.map_id, List.map_id] at h2
  · intro h; rw [h]
end Go.Proofs.Ytkjeidoplonkjaa
