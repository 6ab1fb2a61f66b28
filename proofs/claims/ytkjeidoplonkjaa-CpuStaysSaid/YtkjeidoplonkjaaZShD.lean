import Derived.Test.YtkjeidoplonkjaaZShC
set_option linter.unusedVariables false
set_option linter.unusedSimpArgs false
set_option maxRecDepth 100000
namespace Go.Proofs.Ytkjeidoplonkjaa
open Go
structure NowOk (now : List (Nat × Pg)) : Prop where
  nodup : (now.map (·.1)).Nodup
  al : ∀ y ∈ now, y.1 % 256 = 0 ∧ y.1 < 4294967296
  len : ∀ y ∈ now, y.2.b.length = 256
  cnt : ∀ y ∈ now, y.2.perm = cntB y.2.b
def nowB (l now : List (Nat × Pg)) (k : Nat) : Bytes := match getPg now k with
  | some p => p.b
  | none => bOf l k
def nowPut (now : List (Nat × Pg)) (k : Nat) (p : Pg) : List (Nat × Pg) := match getPg now k with
  | some _ => setPg now k p
  | none => now ++ [(k, p)]
def pgB (b : Bytes) : Pg := ⟨b, cntB b⟩
def now1 (l now : List (Nat × Pg)) (x : Nat) (v : UInt8) : List (Nat × Pg) := nowPut now (baseN x) (pgB ((nowB l now (baseN x)).set (x % 256) v))
def nowP (l : List (Nat × Pg)) (a : Nat) (bs : Bytes) : Nat → List (Nat × Pg)
  | 0 => []
  | i + 1 => now1 l (nowP l a bs i) (a + i) (bs.getD i 0)
def labN (l now : List (Nat × Pg)) (x : Nat) : UInt8 := (nowB l now (baseN x)).getD (x % 256) 0
def putAll (l now : List (Nat × Pg)) : List (Nat × Pg) := now.foldl (fun l y => putPg l y.1 y.2.b) l
end Go.Proofs.Ytkjeidoplonkjaa
