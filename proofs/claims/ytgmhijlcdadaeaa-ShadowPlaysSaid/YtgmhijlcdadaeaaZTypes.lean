import Derived.Test.YtgmhijlcdadaeaaZEngX
import Derived.Test.YtgmhijlcdadaeaaProg
set_option maxRecDepth 100000
namespace Go.Proofs.Ytgmhijlcdadaeaa
open Go
theorem follows : Try.prog.follows .mixedOrders = true := by kernel_rfl
theorem places78 : Places Try.prog 78 [(0, 1), (1, 1)] := ⟨_, Try.underlying78, fun w => by kernel_rfl⟩
theorem places118 : Places Try.prog 118 [(0, 1), (1, 1)] := ⟨_, Try.underlying118, fun w => by kernel_rfl⟩
theorem places127 : Places Try.prog 127 [(0, 256), (256, 1)] := ⟨_, Try.underlying127, fun w => by kernel_rfl⟩
theorem places137 : Places Try.prog 137 [(0, 1), (1, 256)] := ⟨_, Try.underlying137, fun w => by kernel_rfl⟩
end Go.Proofs.Ytgmhijlcdadaeaa
