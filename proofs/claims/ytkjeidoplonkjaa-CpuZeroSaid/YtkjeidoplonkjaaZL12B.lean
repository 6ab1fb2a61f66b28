import Derived.Test.YtkjeidoplonkjaaZL12A
set_option linter.unusedVariables false
set_option linter.unusedSimpArgs false
set_option maxRecDepth 100000
namespace Go.Proofs.Ytkjeidoplonkjaa
open Go
structure StRd (s : StP) : Prop where
  len : s.x.length = 32
  lt : ∀ y ∈ s.x, y < 4294967296
  pc : s.pc < 4294967296
  ret : -9223372036854775808 ≤ s.ret ∧ s.ret ≤ 9223372036854775807
theorem StRd.ok {s : StP} (h : StRd s) (h2 : s.ret ≤ 4611686018427387904) : StOk s := ⟨h.len, h.lt, h.pc, h.ret.1, h2⟩
theorem StRd.cRet {s : StP} (h : StRd s) : s.cells.toArray[33]? = some (.int .i64 s.ret) := by simp [StP.cells, natsV, List.getElem?_append, h.len]
theorem StRd.size {s : StP} (h : StRd s) : s.cells.length = 34 := by simp [StP.cells, natsV, h.len]
theorem StP.cPc' {s : StP} (h : s.x.length = 32) : s.cells.toArray[32]? = some (.int .u32 (s.pc : Int)) := by simp [StP.cells, natsV, List.getElem?_append, h]
theorem StP.cRet' {s : StP} (h : s.x.length = 32) : s.cells.toArray[33]? = some (.int .i64 s.ret) := by simp [StP.cells, natsV, List.getElem?_append, h]
end Go.Proofs.Ytkjeidoplonkjaa
