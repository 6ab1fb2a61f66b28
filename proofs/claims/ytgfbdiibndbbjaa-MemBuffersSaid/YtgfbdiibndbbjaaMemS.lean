/- The calls of the rows of law3: what they read as. -/
import Derived.Test.YtgfbdiibndbbjaaMemP
import Derived.Test.YtgfbdiibndbbjaaMemH
set_option linter.unusedVariables false
set_option linter.unusedSimpArgs false
set_option maxRecDepth 100000
namespace Go.Proofs.Ytgfbdiibndbbjaa
open Go
structure ActG where
  op : Int
  a : Nat
  n : Nat
  p : Int
  size : Int
  b : Sl UInt8
def ActG.cells (x : ActG) : List Value := [.int .i64 x.op, .int .u32 (x.a : Int), .int .u32 (x.n : Int), .int .i64 x.p, .int .i64 x.size, x.b.v]
structure ActG.Rd (x : ActG) (h : Hp) : Prop where
  op : (Lit.int .i64 x.op).wf = true
  a : x.a < 4294967296
  n : x.n < 4294967296
  p : (Lit.int .i64 x.p).wf = true
  size : (Lit.int .i64 x.size).wf = true
  b : RdB x.b h
theorem ActG.up (x : ActG) : Up x.Rd := fun h k l r => ⟨r.op, r.a, r.n, r.p, r.size, RdB.up _ h k l r.b⟩
theorem ActG.len (x : ActG) : x.cells.length = 6 := rfl
def RdActGs (s : Sl ActG) : HProp := RdRows 6 ActG.cells ActG.Rd s
theorem RdActGs.up (s : Sl ActG) : Up (RdActGs s) := RdRows.up ActG.up s
end Go.Proofs.Ytgfbdiibndbbjaa
