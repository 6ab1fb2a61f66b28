import Derived.Test.YtjfgefdcngpplaaZEngX
import Derived.Test.YtjfgefdcngpplaaProg
set_option maxRecDepth 100000
namespace Go.Proofs.Ytjfgefdcngpplaa
open Go
theorem follows : Try.prog.follows .mixedOrders = true := by kernel_rfl
theorem places34 : Places Try.prog 34 [(0, 1), (1, 1), (2, 1)] := ⟨_, Try.underlying34, fun w => by kernel_rfl⟩
theorem places37 : Places Try.prog 37 [(0, 1), (1, 1), (2, 1)] := ⟨_, Try.underlying37, fun w => by kernel_rfl⟩
theorem places42 : Places Try.prog 42 [(0, 1), (1, 1), (2, 1)] := ⟨_, Try.underlying42, fun w => by kernel_rfl⟩
theorem places47 : Places Try.prog 47 [(0, 1), (1, 1), (2, 1), (3, 1), (4, 1)] := ⟨_, Try.underlying47, fun w => by kernel_rfl⟩
theorem places48 : Places Try.prog 48 [(0, 1), (1, 1), (2, 1), (3, 1), (4, 1)] := ⟨_, Try.underlying48, fun w => by kernel_rfl⟩
theorem places59 : Places Try.prog 59 [(0, 1), (1, 1), (2, 1)] := ⟨_, Try.underlying59, fun w => by kernel_rfl⟩
theorem places63 : Places Try.prog 63 [(0, 1), (1, 1), (2, 256)] := ⟨_, Try.underlying63, fun w => by kernel_rfl⟩
theorem places77 : Places Try.prog 77 [(0, 1), (1, 1), (2, 1)] := ⟨_, Try.underlying77, fun w => by kernel_rfl⟩
theorem places84 : Places Try.prog 84 [(0, 256), (256, 1)] := ⟨_, Try.underlying84, fun w => by kernel_rfl⟩
end Go.Proofs.Ytjfgefdcngpplaa
