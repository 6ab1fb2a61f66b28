import Derived.Test.YtogkncmhonomdaaZComX
set_option linter.unusedVariables false
set_option linter.unusedSimpArgs false
set_option maxRecDepth 100000
namespace Go.Proofs.Ytogkncmhonomdaa
open Go
theorem rw_get {α : Type} {m : Nat} {c : α → List Value} : ∀ {l : List α} {k j : Nat} {x : α} {v : Value}, (∀ x ∈ l, (c x).length = m) → l[k]? = some x → (c x)[j]? = some v → (l.flatMap c)[k * m + j]? = some v
  | [], _, _, _, _, _, e, _ => by simp at e
  | y :: l, 0, j, x, v, h, e, hv => by
    simp only [List.getElem?_cons_zero, Option.some.injEq] at e
    subst e
    have := (List.getElem?_eq_some_iff.1 hv).1
    rw [List.flatMap_cons, Nat.zero_mul, Nat.zero_add, List.getElem?_append_left this]
    exact hv
  | y :: l, k + 1, j, x, v, h, e, hv => by
    have hy := h y (List.mem_cons_self ..)
    rw [List.flatMap_cons, Nat.succ_mul, List.getElem?_append_right (by omega), hy, show k * m + m + j - m = k * m + j by omega]
    exact rw_get (fun z hz => h z (List.mem_cons_of_mem _ hz)) (by simpa using e) hv
theorem rw_set {α : Type} {m : Nat} {c : α → List Value} : ∀ {l : List α} {k j : Nat} {x x' : α} {v : Value}, (∀ x ∈ l, (c x).length = m) → l[k]? = some x → j < m → (c x).set j v = c x' → (l.flatMap c).set (k * m + j) v = (l.set k x').flatMap c
  | [], _, _, _, _, _, _, e, _, _ => by simp at e
  | y :: l, 0, j, x, x', v, h, e, hj, hv => by
    simp only [List.getElem?_cons_zero, Option.some.injEq] at e
    subst e
    rw [List.flatMap_cons, Nat.zero_mul, Nat.zero_add, List.set_append_left _ _ (by rw [h y (List.mem_cons_self ..)]; exact hj), hv]
    rfl
  | y :: l, k + 1, j, x, x', v, h, e, hj, hv => by
    have hy := h y (List.mem_cons_self ..)
    rw [List.flatMap_cons, Nat.succ_mul, List.set_append_right _ _ (by omega), hy, show k * m + m + j - m = k * m + j by omega, rw_set (fun z hz => h z (List.mem_cons_of_mem _ hz)) (by simpa using e) hj hv]
    rfl
theorem rw_take {α : Type} {m : Nat} {c : α → List Value} : ∀ {l : List α} (k : Nat), (∀ x ∈ l, (c x).length = m) → (l.flatMap c).take (k * m) = (l.take k).flatMap c
  | [], k, _ => by simp
  | y :: l, 0, h => by simp
  | y :: l, k + 1, h => by
    have hy := h y (List.mem_cons_self ..)
    rw [List.flatMap_cons, Nat.succ_mul, List.take_append, hy, List.take_of_length_le (by omega), show k * m + m - m = k * m by omega, rw_take k fun z hz => h z (List.mem_cons_of_mem _ hz), List.take_succ_cons, List.flatMap_cons]
theorem rw_drop {α : Type} {m : Nat} {c : α → List Value} : ∀ {l : List α} (k : Nat), (∀ x ∈ l, (c x).length = m) → (l.flatMap c).drop (k * m) = (l.drop k).flatMap c
  | [], k, _ => by simp
  | y :: l, 0, h => by simp
  | y :: l, k + 1, h => by
    have hy := h y (List.mem_cons_self ..)
    rw [List.flatMap_cons, Nat.succ_mul, List.drop_append, hy, List.drop_of_length_le (by omega), show k * m + m - m = k * m by omega, rw_drop k fun z hz => h z (List.mem_cons_of_mem _ hz), List.drop_succ_cons, List.nil_append]
theorem HasC.add2 {A : HProp} {ad : Addr} {k j : Nat} {v : Value} (h : HasC A (ad.add (k + j)) v) : HasC A ((ad.add k).add j) v := by
  have : (ad.add k).add j = ad.add (k + j) := by cases ad; unfold Addr.add; by_cases hk : k = 0 <;> by_cases hj : j = 0 <;> simp [hk, hj, Nat.add_assoc]
  rw [this]; exact h
section
variable {P : Program} {n : Nat} {cx : Cx} {ρ ρs : Hp} {E : Env} {L : Own} {ops : Array Oper} {Q : Exit → Act → World → Prop} {S' : World → Prop} {π : List (Nat × Bool)}
theorem Cd.lower {d : Code} (hle : Hp.le ρs ρ) (h0 : Hp.le cx.r0 ρs) (h : Cd P Q n cx ρs E L d) : Cd P Q n cx ρ E L d := fun a w ha hs => h a w ha (hs.down hle h0)
theorem Jp.lower (hle : Hp.le ρs ρ) (h0 : Hp.le cx.r0 ρs) (h : Jp P ops Q S' n cx π ρs E L) : Jp P ops Q S' n cx π ρ E L := fun a w ha hs => h a w ha (hs.down hle h0)
end
end Go.Proofs.Ytogkncmhonomdaa
