import Derived.Test.YtgmhijlcdadaeaaZShM
set_option linter.unusedVariables false
set_option linter.unusedSimpArgs false
set_option maxRecDepth 100000
namespace Go.Proofs.Ytgmhijlcdadaeaa
open Go
theorem orL_mem {y : UInt8} : ∀ {m : Bytes}, y ∈ m → y ||| orL m = orL m
  | [], h => by cases h
  | x :: m, h => by
    rw [orL_cons]
    rcases List.mem_cons.1 h with rfl | h
    · rw [← UInt8.or_assoc, UInt8.or_self]
    · rw [← UInt8.or_assoc, UInt8.or_comm y x, UInt8.or_assoc, orL_mem h]
theorem orL_sub : ∀ {l m : Bytes}, (∀ y ∈ l, y ≠ 0 → y ∈ m) → orL l ||| orL m = orL m
  | [], m, _ => by rw [orL_nil, UInt8.zero_or]
  | x :: l, m, h => by
    rw [orL_cons, UInt8.or_assoc, orL_sub fun y hy => h y (List.mem_cons_of_mem _ hy)]
    by_cases hx : x = 0
    · rw [hx, UInt8.zero_or]
    · exact orL_mem (h x (List.mem_cons_self ..) hx)
theorem orL_ext {l m : Bytes} (h1 : ∀ y ∈ l, y ≠ 0 → y ∈ m) (h2 : ∀ y ∈ m, y ≠ 0 → y ∈ l) : orL l = orL m := by
  rw [← orL_sub h1, UInt8.or_comm, orL_sub h2]
def labsP (l : List (Nat × Pg)) (a n : Nat) : Bytes := (List.range n).map fun i => labL l (a + i)
end Go.Proofs.Ytgmhijlcdadaeaa
