import Derived.Test.YtkjeidoplonkjaaZEngX
import Derived.Test.YtkjeidoplonkjaaProg
set_option maxRecDepth 100000
namespace Go.Proofs.Ytkjeidoplonkjaa
open Go
theorem follows : Try.prog.follows .mixedOrders = true := by kernel_rfl
theorem places28 : Places Try.prog 28 [(0, 1), (1, 1), (2, 1), (3, 1), (4, 1)] := ⟨_, Try.underlying28, fun w => by kernel_rfl⟩
theorem places32 : Places Try.prog 32 [(0, 32), (32, 1), (33, 1)] := ⟨_, Try.underlying32, fun w => by kernel_rfl⟩
theorem places35 : Places Try.prog 35 [(0, 1), (1, 1), (2, 1)] := ⟨_, Try.underlying35, fun w => by kernel_rfl⟩
theorem places113 : Places Try.prog 113 [(0, 1), (1, 1), (2, 1)] := ⟨_, Try.underlying113, fun w => by kernel_rfl⟩
theorem places116 : Places Try.prog 116 [(0, 1), (1, 1), (2, 256)] := ⟨_, Try.underlying116, fun w => by kernel_rfl⟩
theorem places142 : Places Try.prog 142 [(0, 1), (1, 1), (2, 1)] := ⟨_, Try.underlying142, fun w => by kernel_rfl⟩
theorem places144 : Places Try.prog 144 [(0, 256), (256, 1)] := ⟨_, Try.underlying144, fun w => by kernel_rfl⟩
end Go.Proofs.Ytkjeidoplonkjaa
