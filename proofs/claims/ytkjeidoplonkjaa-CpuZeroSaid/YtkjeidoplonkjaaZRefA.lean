import Derived.Test.YtkjeidoplonkjaaZRsC
import Derived.Test.YtkjeidoplonkjaaZMemX2
set_option linter.unusedVariables false
set_option linter.unusedSimpArgs false
set_option maxRecDepth 100000
namespace Go.Proofs.Ytkjeidoplonkjaa
open Go
def refPg (x : Nat × Pg) : List Value := .int .u32 (x.1 : Int) :: .int .i64 (x.2.perm : Int) :: bytesV x.2.b
def refGen (x : Nat × Nat) : List Value := [.int .u32 (x.1 : Int), .int .u32 (x.2 : Int)]
structure RefX where
  A : Option Addr
  c : Nat
  B : Option Addr
  d : Nat
  g : List (Nat × Nat)
def gLook : List (Nat × Nat) → Nat → Nat
  | [], _ => 0
  | (x, n) :: l, k => if x = k then n else gLook l k
structure GenF (G : Nat → Nat) (g : List (Nat × Nat)) : Prop where
  gens : ∀ k, G k = gLook g k
  once : (g.map (·.1)).Nodup
  rng : ∀ y ∈ g, y.1 % 256 = 0 ∧ y.1 < 4294967296 ∧ y.2 < 4294967296
structure RefF (M : MemG) (x : RefX) : Prop where
  ok : MemOk M
  gen : GenF M.gens x.g
def refObj (B : Int) (A : Option Addr) (k c : Nat) (C : Option Addr) (m d : Nat) : Obj := .cells #[.int .i64 B, .slice A k c, .slice C m d] 113
def RefO (b : Nat) (M : MemG) : HProp := Ex fun x : RefX => Fact (RefF M x) (Sep (Pt b (refObj M.budget x.A M.pages.length x.c x.B x.g.length x.d)) (Sep (OwnS 116 258 x.A M.pages.length x.c (M.pages.flatMap refPg)) (OwnS 271 2 x.B x.g.length x.d (x.g.flatMap refGen))))
theorem refPg_len {x : Nat × Pg} (h : x.2.b.length = 256) : (refPg x).length = 258 := by simp [refPg, bytesV, h]
theorem RefF.rows {M : MemG} {x : RefX} (f : RefF M x) : ∀ y ∈ M.pages, (refPg y).length = 258 := fun y hy => refPg_len (f.ok.page y hy).len
section
variable {P : Program} {n : Nat} {cx : Cx} {ρ : Hp} {E : Env} {L : Own} {ops : Array Oper} {Q : Exit → Act → World → Prop} {S' : World → Prop} {π : List (Nat × Bool)}
end
theorem RefO.ok {b : Nat} {M : MemG} : ∀ h, RefO b M h → MemOk M := fun h ⟨x, hf, _⟩ => hf.ok
end Go.Proofs.Ytkjeidoplonkjaa
