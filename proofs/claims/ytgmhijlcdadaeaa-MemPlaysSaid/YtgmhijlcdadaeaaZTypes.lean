import Derived.Test.YtgmhijlcdadaeaaZEngX
import Derived.Test.YtgmhijlcdadaeaaProg
set_option maxRecDepth 100000
namespace Go.Proofs.Ytgmhijlcdadaeaa
open Go
theorem follows : Try.prog.follows .mixedOrders = true := by kernel_rfl
theorem places88 : Places Try.prog 88 [(0, 1), (1, 1), (2, 1)] := ⟨_, Try.underlying88, fun w => by kernel_rfl⟩
theorem places108 : Places Try.prog 108 [(0, 1), (1, 1), (2, 256)] := ⟨_, Try.underlying108, fun w => by kernel_rfl⟩
theorem places115 : Places Try.prog 115 [(0, 1), (1, 1), (2, 1)] := ⟨_, Try.underlying115, fun w => by kernel_rfl⟩
theorem places145 : Places Try.prog 145 [(0, 256), (256, 1)] := ⟨_, Try.underlying145, fun w => by kernel_rfl⟩
theorem places159 : Places Try.prog 159 [(0, 1), (1, 1)] := ⟨_, Try.underlying159, fun w => by kernel_rfl⟩
end Go.Proofs.Ytgmhijlcdadaeaa
