import Derived.Test.YtgmhijlcdadaeaaZShB
import Derived.Test.YtgmhijlcdadaeaaZEngW
import Derived.Test.YtgmhijlcdadaeaaZEngV3
import Derived.Test.YtgmhijlcdadaeaaZEngT2
set_option linter.unusedVariables false
set_option linter.unusedSimpArgs false
set_option maxRecDepth 100000
namespace Go.Proofs.Ytgmhijlcdadaeaa
open Go
theorem rs_get {α : Type} {m : Nat} {c : α → List Value} : ∀ {l : List α} {k j : Nat} {x : α} {v : Value}, (∀ x ∈ l, (c x).length = m) → l[k]? = some x → (c x)[j]? = some v → (l.flatMap c)[k * m + j]? = some v
  | [], _, _, _, _, _, e, _ => by simp at e
  | y :: l, 0, j, x, v, h, e, hv => by
    simp only [List.getElem?_cons_zero, Option.some.injEq] at e
    subst e
    have := (List.getElem?_eq_some_iff.1 hv).1
    rw [List.flatMap_cons, Nat.zero_mul, Nat.zero_add, List.getElem?_append_left this]
    exact hv
  | y :: l, k + 1, j, x, v, h, e, hv => by
    have hy := h y (List.mem_cons_self ..)
    rw [List.flatMap_cons, Nat.succ_mul, List.getElem?_append_right (by omega), hy, show k * m + m + j - m = k * m + j by omega]
    exact rs_get (fun z hz => h z (List.mem_cons_of_mem _ hz)) (by simpa using e) hv
theorem rs_set {α : Type} {m : Nat} {c : α → List Value} : ∀ {l : List α} {k j : Nat} {x x' : α} {v : Value}, (∀ x ∈ l, (c x).length = m) → l[k]? = some x → j < m → (c x).set j v = c x' → (l.flatMap c).set (k * m + j) v = (l.set k x').flatMap c
  | [], _, _, _, _, _, _, e, _, _ => by simp at e
  | y :: l, 0, j, x, x', v, h, e, hj, hv => by
    simp only [List.getElem?_cons_zero, Option.some.injEq] at e
    subst e
    rw [List.flatMap_cons, Nat.zero_mul, Nat.zero_add, List.set_append_left _ _ (by rw [h y (List.mem_cons_self ..)]; exact hj), hv]
    rfl
  | y :: l, k + 1, j, x, x', v, h, e, hj, hv => by
    have hy := h y (List.mem_cons_self ..)
    rw [List.flatMap_cons, Nat.succ_mul, List.set_append_right _ _ (by omega), hy, show k * m + m + j - m = k * m + j by omega, rs_set (fun z hz => h z (List.mem_cons_of_mem _ hz)) (by simpa using e) hj hv]
    rfl
theorem rs_take {α : Type} {m : Nat} {c : α → List Value} : ∀ {l : List α} (k : Nat), (∀ x ∈ l, (c x).length = m) → (l.flatMap c).take (k * m) = (l.take k).flatMap c
  | [], k, _ => by simp
  | y :: l, 0, h => by simp
  | y :: l, k + 1, h => by
    have hy := h y (List.mem_cons_self ..)
    rw [List.flatMap_cons, Nat.succ_mul, List.take_append, hy, List.take_of_length_le (by omega), show k * m + m - m = k * m by omega, rs_take k fun z hz => h z (List.mem_cons_of_mem _ hz), List.take_succ_cons, List.flatMap_cons]
theorem rs_drop {α : Type} {m : Nat} {c : α → List Value} : ∀ {l : List α} (k : Nat), (∀ x ∈ l, (c x).length = m) → (l.flatMap c).drop (k * m) = (l.drop k).flatMap c
  | [], k, _ => by simp
  | y :: l, 0, h => by simp
  | y :: l, k + 1, h => by
    have hy := h y (List.mem_cons_self ..)
    rw [List.flatMap_cons, Nat.succ_mul, List.drop_append, hy, List.drop_of_length_le (by omega), show k * m + m - m = k * m by omega, rs_drop k fun z hz => h z (List.mem_cons_of_mem _ hz), List.drop_succ_cons, List.nil_append]
def lbC (x : Nat × Pg) : List Value := .int .u32 (x.1 : Int) :: bytesV x.2.b
def rsObj (B : Int) (A : Option Addr) (k c : Nat) : Obj := .cells #[.int .i64 B, .slice A k c] 78
def RsO (b : Nat) (B : Int) (l : List (Nat × Pg)) : HProp := Ex fun x : Option Addr × Nat => Fact ((∀ y ∈ l, y.2.b.length = 256) ∧ l.length ≤ 16777217) (Sep (Pt b (rsObj B x.1 l.length x.2)) (OwnS 137 257 x.1 l.length x.2 (l.flatMap lbC)))
section
variable {P : Program} {n : Nat} {cx : Cx} {ρ : Hp} {E : Env} {L : Own} {ops : Array Oper} {Q : Exit → Act → World → Prop} {S' : World → Prop} {π : List (Nat × Bool)}
end
def findN (l : List (Nat × Pg)) (k : Nat) : Nat := l.findIdx fun x => x.1 == k
theorem findN_cons (x : Nat × Pg) (l : List (Nat × Pg)) (k : Nat) : findN (x :: l) k = if x.1 = k then 0 else findN l k + 1 := by
  unfold findN
  rw [List.findIdx_cons]
  by_cases h : x.1 = k
  · simp [h]
  · have : (x.1 == k) = false := by simpa using h
    rw [this, if_neg h]; rfl
theorem findN_get : ∀ (l : List (Nat × Pg)) (k : Nat), getPg l k = (l[findN l k]?).map (·.2) ∧ (∀ x, l[findN l k]? = some x → x.1 = k) ∧ findN l k ≤ l.length
  | [], k => by simp [findN, getPg]
  | (j, p) :: l, k => by
    have ih := findN_get l k
    rw [findN_cons]
    simp only [getPg]
    by_cases h : j = k
    · simp [h]
    · rw [if_neg h, if_neg h, List.getElem?_cons_succ, List.length_cons]
      exact ⟨ih.1, ih.2.1, by omega⟩
theorem findN_step : ∀ (l : List (Nat × Pg)) (k i : Nat), i ≤ findN l k → ∀ x, l[i]? = some x → (x.1 = k ↔ i = findN l k)
  | [], k, i, _, x, h => by simp at h
  | y :: l, k, 0, _, x, h => by
    simp at h; subst h
    rw [findN_cons]
    by_cases e : y.1 = k
    · simp [e]
    · rw [if_neg e]; simp [e]
  | y :: l, k, i + 1, hi, x, h => by
    rw [findN_cons] at hi ⊢
    by_cases e : y.1 = k
    · rw [if_pos e] at hi; omega
    · rw [if_neg e] at hi ⊢
      have := findN_step l k i (by omega) x (by simpa using h)
      omega
end Go.Proofs.Ytgmhijlcdadaeaa
