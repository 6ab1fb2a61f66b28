import Derived.Test.YtkjeidoplonkjaaZRvD
set_option linter.unusedVariables false
set_option linter.unusedSimpArgs false
set_option maxRecDepth 100000
namespace Go.Proofs.Ytkjeidoplonkjaa
open Go
def atP (pc k : Nat) : Nat := (pc + 4 * k) % 4294967296
def findL (M : MemG) (pc : Nat) : Nat → Nat → List InsP
  | 0, _ => []
  | n + 1, k => if atP pc k / 256 = pc / 256 ∧ (fetchP M (atP pc k)).2.kind = 0 then (fetchP M (atP pc k)).1 :: (if endsP (fetchP M (atP pc k)).1.op then [] else findL M pc n (k + 1)) else []
def mostP (most : Int) : Nat := (min (max most 1) 64).toNat
def blockC (pc : Nat) (B : Option Addr) (l d gen : Nat) : List Value := [.int .u32 (pc : Int), .slice B l d, .int .u32 (gen : Int)]
end Go.Proofs.Ytkjeidoplonkjaa
