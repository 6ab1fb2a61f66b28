import Derived.Test.YtkjeidoplonkjaaZEngX
import Derived.Laws.StructEq
set_option linter.unusedVariables false
set_option linter.unusedSimpArgs false
namespace Go.Proofs.Ytkjeidoplonkjaa
open Go
section
variable {P : Program} {n : Nat} {cx : Cx} {ρ : Hp} {E : Env} {L : Own} {o : Oper}
theorem Y.eqlS {x y : Operand} {t u : TypeId} {xs ys : Array Value} {r : Bool} (hop : o.op = .binOp .eql t x y u) (hx : evE E x = some (.agg xs)) (hy : evE E y = some (.agg ys)) (hm : P.eqGuardType P.depth t = false) (ht : P.underlying t = some (.struct (P.fieldsOf t))) (hp : P.stoodInHeld t = false)
    (hr : ∀ w, (Op.eqFields 9999 xs ys (P.fieldsOf t).toList).run P w = .ok r w) : Y P n cx ρ E L o (.bool r) := fun ac w ha _ => by
  have h1 := run_eqGuard_agg (P := P) w .eql t x y xs ys hm
  have h2 : (binOp .eql t (.agg xs) (.agg ys)).run P w = .ok (.bool r) w := by
    rw [run_eql_struct, run_equalIn_struct w 9999 t xs ys ht hp, hr w]; rfl
  simp only [execOp, hop, ha.ev hx, ha.ev hy, Sem.run_bind, h1, Result.andThen_ok, h2, Sem.run_pure]
theorem Y.neqS {x y : Operand} {t u : TypeId} {xs ys : Array Value} {r : Bool} (hop : o.op = .binOp .neq t x y u) (hx : evE E x = some (.agg xs)) (hy : evE E y = some (.agg ys)) (hm : P.eqGuardType P.depth t = false) (ht : P.underlying t = some (.struct (P.fieldsOf t))) (hp : P.stoodInHeld t = false)
    (hr : ∀ w, (Op.eqFields 9999 xs ys (P.fieldsOf t).toList).run P w = .ok r w) : Y P n cx ρ E L o (.bool (!r)) := fun ac w ha _ => by
  have h1 := run_eqGuard_agg (P := P) w .neq t x y xs ys hm
  have h2 : (binOp .neq t (.agg xs) (.agg ys)).run P w = .ok (.bool (!r)) w := by
    rw [run_neq_struct, run_equalIn_struct w 9999 t xs ys ht hp, hr w]; rfl
  simp only [execOp, hop, ha.ev hx, ha.ev hy, Sem.run_bind, h1, Result.andThen_ok, h2, Sem.run_pure]
theorem eqFields_int {d : Nat} {xs ys : Array Value} {f : Field} {fs : List Field} {k k' : IntKind} {a b : Int} {r : Bool} {w : World} (hn : f.name ≠ "_") (hx : (part f.type xs f.offset).run P w = .ok (.int k a) w) (hy : (part f.type ys f.offset).run P w = .ok (.int k b) w) (ht : P.underlying f.type = some (.int k'))
    (hr : (Op.eqFields (d + 1) xs ys fs).run P w = .ok r w) : (Op.eqFields (d + 1) xs ys (f :: fs)).run P w = .ok ((a == b) && r) w := by
  simp only [Op.eqFields, Sem.run_bind, Sem.run_ite, hn, ne_eq, not_false_eq_true, if_true, hx, hy, Result.andThen_ok, run_equalIn_int w d f.type k k' a b ht]
  cases hab : (a == b) <;> simp [hr, Sem.run_pure]
theorem part_int {e : TypeId} {xs : Array Value} {off : Nat} {v : Value} {w : World} (hA : ∀ w, (isAgg e).run P w = .ok false w) (hx : xs[off]? = some v) : (part e xs off).run P w = .ok v w := by
  simp only [part, Sem.run_bind, hA, Result.andThen_ok, Bool.false_eq_true, if_false, hx, Sem.run_pure]
end
end Go.Proofs.Ytkjeidoplonkjaa
