import Derived.Test.YtkjeidoplonkjaaZShB
set_option linter.unusedVariables false
set_option linter.unusedSimpArgs false
set_option maxRecDepth 100000
namespace Go.Proofs.Ytkjeidoplonkjaa
open Go
def c1 (v : UInt8) : Nat := if v = 0 then 0 else 1
theorem cntB_set : ∀ {b : Bytes} {j : Nat} {v : UInt8} (h : j < b.length), cntB (b.set j v) + c1 b[j] = cntB b + c1 v
  | [], j, v, h => by simp at h
  | x :: b, 0, v, h => by
    unfold cntB c1
    simp only [List.set_cons_zero, List.countP_cons, List.getElem_cons_zero]
    by_cases h1 : v = 0 <;> by_cases h2 : x = 0 <;> simp [h1, h2] <;> omega
  | x :: b, j + 1, v, h => by
    have := cntB_set (b := b) (j := j) (v := v) (by simpa using h)
    unfold cntB at this ⊢
    simp only [List.set_cons_succ, List.countP_cons, List.getElem_cons_succ]
    omega
def cOf (l : List (Nat × Pg)) (y : Nat × Pg) : Int := (if 0 < y.2.perm then 1 else 0) - (if (getPg l y.1).isSome then 1 else 0)
def moreP (l now : List (Nat × Pg)) : Int := (now.map (cOf l)).sum
end Go.Proofs.Ytkjeidoplonkjaa
