import Derived.Test.YtogkncmhonomdaaZEngX
import Derived.Test.YtogkncmhonomdaaProg
set_option maxRecDepth 100000
namespace Go.Proofs.Ytogkncmhonomdaa
open Go
theorem follows : Try.prog.follows .mixedOrders = true := by kernel_rfl
theorem places28 : Places Try.prog 28 [(0, 1), (1, 1), (2, 1), (3, 1), (4, 1), (5, 1)] := ⟨_, Try.underlying28, fun w => by kernel_rfl⟩
theorem places38 : Places Try.prog 38 [(0, 1), (1, 1), (2, 1), (3, 1), (4, 1), (5, 1)] := ⟨_, Try.underlying38, fun w => by kernel_rfl⟩
theorem places55 : Places Try.prog 55 [(0, 6), (6, 1), (7, 1), (8, 1)] := ⟨_, Try.underlying55, fun w => by kernel_rfl⟩
theorem places60 : Places Try.prog 60 [(0, 1), (1, 1), (2, 2)] := ⟨_, Try.underlying60, fun w => by kernel_rfl⟩
theorem places63 : Places Try.prog 63 [(0, 1), (1, 1)] := ⟨_, Try.underlying63, fun w => by kernel_rfl⟩
theorem places68 : Places Try.prog 68 [(0, 1), (1, 1), (2, 1), (3, 1)] := ⟨_, Try.underlying68, fun w => by kernel_rfl⟩
theorem places71 : Places Try.prog 71 [(0, 1), (1, 1), (2, 1)] := ⟨_, Try.underlying71, fun w => by kernel_rfl⟩
theorem places74 : Places Try.prog 74 [(0, 1), (1, 1), (2, 1)] := ⟨_, Try.underlying74, fun w => by kernel_rfl⟩
theorem places75 : Places Try.prog 75 [(0, 1), (1, 1)] := ⟨_, Try.underlying75, fun w => by kernel_rfl⟩
theorem places84 : Places Try.prog 84 [(0, 1), (1, 1), (2, 1), (3, 1), (4, 1), (5, 1)] := ⟨_, Try.underlying84, fun w => by kernel_rfl⟩
end Go.Proofs.Ytogkncmhonomdaa
