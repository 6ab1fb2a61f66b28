import Derived.Test.YtkjeidoplonkjaaZShB
import Derived.Test.YtkjeidoplonkjaaZEngW
import Derived.Test.YtkjeidoplonkjaaZEngV3
import Derived.Test.YtkjeidoplonkjaaZEngT2
set_option linter.unusedVariables false
set_option linter.unusedSimpArgs false
set_option maxRecDepth 100000
namespace Go.Proofs.Ytkjeidoplonkjaa
open Go
theorem rs_len {α : Type} {m : Nat} {c : α → List Value} : ∀ {l : List α}, (∀ x ∈ l, (c x).length = m) → (l.flatMap c).length = l.length * m
  | [], _ => by simp
  | x :: l, h => by
    rw [List.flatMap_cons, List.length_append, h x (List.mem_cons_self ..), rs_len fun y hy => h y (List.mem_cons_of_mem _ hy), List.length_cons, Nat.succ_mul]
    omega
theorem rs_get {α : Type} {m : Nat} {c : α → List Value} : ∀ {l : List α} {k j : Nat} {x : α} {v : Value}, (∀ x ∈ l, (c x).length = m) → l[k]? = some x → (c x)[j]? = some v → (l.flatMap c)[k * m + j]? = some v
  | [], _, _, _, _, _, e, _ => by simp at e
  | y :: l, 0, j, x, v, h, e, hv => by
    simp only [List.getElem?_cons_zero, Option.some.injEq] at e
    subst e
    have := (List.getElem?_eq_some_iff.1 hv).1
    rw [List.flatMap_cons, Nat.zero_mul, Nat.zero_add, List.getElem?_append_left this]
    exact hv
  | y :: l, k + 1, j, x, v, h, e, hv => by
    have hy := h y (List.mem_cons_self ..)
    rw [List.flatMap_cons, Nat.succ_mul, List.getElem?_append_right (by omega), hy, show k * m + m + j - m = k * m + j by omega]
    exact rs_get (fun z hz => h z (List.mem_cons_of_mem _ hz)) (by simpa using e) hv
def lbC (x : Nat × Pg) : List Value := .int .u32 (x.1 : Int) :: bytesV x.2.b
section
variable {P : Program} {n : Nat} {cx : Cx} {ρ : Hp} {E : Env} {L : Own} {ops : Array Oper} {Q : Exit → Act → World → Prop} {S' : World → Prop} {π : List (Nat × Bool)}
end
def findN (l : List (Nat × Pg)) (k : Nat) : Nat := l.findIdx fun x => x.1 == k
theorem findN_cons (x : Nat × Pg) (l : List (Nat × Pg)) (k : Nat) : findN (x :: l) k = if x.1 = k then 0 else findN l k + 1 := by
  unfold findN
  rw [List.findIdx_cons]
  by_cases h : x.1 = k
  · simp [h]
  · have : (x.1 == k) = false := by simpa using h
    rw [this, if_neg h]; rfl
theorem findN_get : ∀ (l : List (Nat × Pg)) (k : Nat), getPg l k = (l[findN l k]?).map (·.2) ∧ (∀ x, l[findN l k]? = some x → x.1 = k) ∧ findN l k ≤ l.length
  | [], k => by simp [findN, getPg]
  | (j, p) :: l, k => by
    have ih := findN_get l k
    rw [findN_cons]
    simp only [getPg]
    by_cases h : j = k
    · simp [h]
    · rw [if_neg h, if_neg h, List.getElem?_cons_succ, List.length_cons]
      exact ⟨ih.1, ih.2.1, by omega⟩
end Go.Proofs.Ytkjeidoplonkjaa
