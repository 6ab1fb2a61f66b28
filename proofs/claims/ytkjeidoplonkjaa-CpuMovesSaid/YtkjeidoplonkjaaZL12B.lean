import Derived.Test.YtkjeidoplonkjaaZL12A
set_option linter.unusedVariables false
set_option linter.unusedSimpArgs false
set_option maxRecDepth 100000
namespace Go.Proofs.Ytkjeidoplonkjaa
open Go
structure StRd (s : StP) : Prop where
  len : s.x.length = 32
  lt : ∀ y ∈ s.x, y < 4294967296
  pc : s.pc < 4294967296
  ret : -9223372036854775808 ≤ s.ret ∧ s.ret ≤ 9223372036854775807
theorem StRd.ok {s : StP} (h : StRd s) (h2 : s.ret ≤ 4611686018427387904) : StOk s := ⟨h.len, h.lt, h.pc, h.ret.1, h2⟩
theorem StRd.size {s : StP} (h : StRd s) : s.cells.length = 34 := by simp [StP.cells, natsV, h.len]
theorem stepP_of {M : MemG} {s : StP} {i : InsP} (h : fetchP M s.pc = (i, noEv)) : stepP M s = doInsP M i s := by
  unfold stepP
  rw [h]
  rfl
end Go.Proofs.Ytkjeidoplonkjaa
