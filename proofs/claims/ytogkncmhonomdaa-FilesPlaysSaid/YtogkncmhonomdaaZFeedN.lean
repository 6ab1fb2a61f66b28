import Derived.Test.YtogkncmhonomdaaZFeedJ
set_option linter.unusedVariables false
set_option linter.unusedSimpArgs false
set_option maxRecDepth 100000
namespace Go.Proofs.Ytogkncmhonomdaa
open Go
structure RefG where
  f : FeedG
  shorts : Nat
  bytes : Nat
  clocks : Nat
def RefG.p (u : RefG) : UseP := ⟨u.f.short.xs, u.f.random.xs, u.f.clock.xs, u.shorts, u.bytes, u.clocks⟩
def RefG.cells (u : RefG) : List Value := [u.f.args.v, u.f.input.v, u.f.short.v, u.f.random.v, u.f.clock.v, u.f.files.v, .int .i64 u.shorts, .int .i64 u.bytes, .int .i64 u.clocks]
structure RdRef (u : RefG) (h : Hp) : Prop where
  short : RdI .i64 u.f.short h
  random : RdB u.f.random h
  clock : RdI .u32 u.f.clock h
  l1 : u.shorts ≤ u.f.short.xs.length
  l2 : u.bytes ≤ u.f.random.xs.length
  l3 : u.clocks ≤ u.f.clock.xs.length
  n1 : u.f.short.xs.length ≤ 4096
  n2 : u.f.random.xs.length ≤ 4096
  n3 : u.f.clock.xs.length ≤ 4096
theorem RdRef.up (u : RefG) : Up (RdRef u) := fun h k l r => { r with short := RdI.up _ _ h k l r.short, random := RdB.up _ h k l r.random, clock := RdI.up _ _ h k l r.clock }
def RefPt (b : Nat) (u : RefG) : HProp := Pt b (.cells u.cells.toArray 55)
def RefEnd (b : Nat) (q : UseP) (ρ : Hp) (A : HProp) : Prop := ∃ u, A = RefPt b u ∧ RdRef u ρ ∧ u.p = q
end Go.Proofs.Ytogkncmhonomdaa
