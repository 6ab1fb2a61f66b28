import Derived.Test.YtkjeidoplonkjaaZAluA
set_option linter.unusedVariables false
set_option linter.unusedSimpArgs false
set_option maxRecDepth 100000
namespace Go.Proofs.Ytkjeidoplonkjaa
open Go
def wideP (a : Nat) : Int := if a / 2147483648 = 1 then (a : Int) - 4294967296 else a
def shP (k a n : Nat) : Nat := if k = 2 then u32 ((a * 2 ^ n : Nat) : Int) else if k = 6 then a / 2 ^ n else u32 ((s32 a).fdiv (2 ^ n))
def shBit (k a n i : Nat) : Nat := if k = 2 then (if n ≤ i then a / 2 ^ (i - n) % 2 else 0) else if i + n < 32 then a / 2 ^ (i + n) % 2 else if k = 7 then a / 2147483648 else 0
def hiP (k a b : Nat) : Nat :=
  let h := a * b / 4294967296
  let h1 := if k ≠ 13 ∧ a / 2147483648 = 1 then u32 ((h : Int) - b) else h
  if k = 11 ∧ b / 2147483648 = 1 then u32 ((h1 : Int) - a) else h1
end Go.Proofs.Ytkjeidoplonkjaa
