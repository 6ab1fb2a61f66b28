import Derived.Test.YtkjeidoplonkjaaZL12B
set_option linter.unusedVariables false
set_option linter.unusedSimpArgs false
set_option maxRecDepth 100000
namespace Go.Proofs.Ytkjeidoplonkjaa
open Go
def stEq (a b : StP) : Bool := decide (a.x = b.x) && (((a.pc : Int) == (b.pc : Int)) && ((a.ret == b.ret) && true))
theorem stores_no {op : Nat} (h : ¬ (16 ≤ op ∧ op ≤ 18)) : ¬ storesP op = true := by rw [storesP, decide_eq_true_eq]; exact h
theorem stores_yes {op : Nat} (h : 16 ≤ op ∧ op ≤ 18) : storesP op = true := decide_eq_true h
theorem writes_yes {op : Nat} (h : 1 ≤ op ∧ op ≤ 4 ∨ 11 ≤ op ∧ op ≤ 15 ∨ 19 ≤ op ∧ op ≤ 45) : writesP op = true := decide_eq_true h
theorem loads_yes {op : Nat} (h : 11 ≤ op ∧ op ≤ 15) : loadsP op = true := decide_eq_true h
end Go.Proofs.Ytkjeidoplonkjaa
