/- Where the fields of the program's structs lie: closed facts, printed by a program of ours. -/
import Derived.Test.YtgmhijlcdadaeaaEngX
import Derived.Test.YtgmhijlcdadaeaaProg
set_option maxRecDepth 100000
namespace Go.Proofs.Ytgmhijlcdadaeaa
open Go
theorem follows : Try.prog.follows .mixedOrders = true := by kernel_rfl
theorem places7 : Places Try.prog 7 [(0, 1), (1, 1), (2, 1), (3, 1)] := ⟨_, Try.underlying7, fun w => by kernel_rfl⟩
theorem places8 : Places Try.prog 8 [(0, 1), (1, 1), (2, 1), (3, 1)] := ⟨_, Try.underlying8, fun w => by kernel_rfl⟩
theorem places13 : Places Try.prog 13 [(0, 1), (1, 1)] := ⟨_, Try.underlying13, fun w => by kernel_rfl⟩
theorem places14 : Places Try.prog 14 [(0, 1), (1, 1)] := ⟨_, Try.underlying14, fun w => by kernel_rfl⟩
theorem places18 : Places Try.prog 18 [(0, 1)] := ⟨_, Try.underlying18, fun w => by kernel_rfl⟩
theorem places19 : Places Try.prog 19 [(0, 1)] := ⟨_, Try.underlying19, fun w => by kernel_rfl⟩
theorem places28 : Places Try.prog 28 [(0, 1), (1, 1), (2, 1)] := ⟨_, Try.underlying28, fun w => by kernel_rfl⟩
theorem places29 : Places Try.prog 29 [(0, 1), (1, 1), (2, 1)] := ⟨_, Try.underlying29, fun w => by kernel_rfl⟩
theorem places31 : Places Try.prog 31 [(0, 1), (1, 1), (2, 1)] := ⟨_, Try.underlying31, fun w => by kernel_rfl⟩
theorem places32 : Places Try.prog 32 [(0, 1), (1, 1), (2, 1)] := ⟨_, Try.underlying32, fun w => by kernel_rfl⟩
theorem places39 : Places Try.prog 39 [(0, 1), (1, 1), (2, 1), (3, 1), (4, 1)] := ⟨_, Try.underlying39, fun w => by kernel_rfl⟩
theorem places40 : Places Try.prog 40 [(0, 1), (1, 1), (2, 1), (3, 1), (4, 1)] := ⟨_, Try.underlying40, fun w => by kernel_rfl⟩
theorem places49 : Places Try.prog 49 [(0, 1), (1, 1), (2, 1)] := ⟨_, Try.underlying49, fun w => by kernel_rfl⟩
theorem places50 : Places Try.prog 50 [(0, 1), (1, 1), (2, 1)] := ⟨_, Try.underlying50, fun w => by kernel_rfl⟩
theorem places54 : Places Try.prog 54 [(0, 1), (1, 1), (2, 1), (3, 1), (4, 1)] := ⟨_, Try.underlying54, fun w => by kernel_rfl⟩
theorem places71 : Places Try.prog 71 [(0, 1), (1, 1), (2, 1), (3, 1), (4, 1), (5, 4)] := ⟨_, Try.underlying71, fun w => by kernel_rfl⟩
theorem places72 : Places Try.prog 72 [(0, 1), (1, 1), (2, 1), (3, 1), (4, 1), (5, 4)] := ⟨_, Try.underlying72, fun w => by kernel_rfl⟩
theorem places77 : Places Try.prog 77 [(0, 1), (1, 1)] := ⟨_, Try.underlying77, fun w => by kernel_rfl⟩
theorem places78 : Places Try.prog 78 [(0, 1), (1, 1)] := ⟨_, Try.underlying78, fun w => by kernel_rfl⟩
theorem places87 : Places Try.prog 87 [(0, 1), (1, 1), (2, 1)] := ⟨_, Try.underlying87, fun w => by kernel_rfl⟩
theorem places88 : Places Try.prog 88 [(0, 1), (1, 1), (2, 1)] := ⟨_, Try.underlying88, fun w => by kernel_rfl⟩
theorem places89 : Places Try.prog 89 [(0, 1), (1, 1), (2, 1), (3, 1), (4, 1), (5, 1)] := ⟨_, Try.underlying89, fun w => by kernel_rfl⟩
theorem places90 : Places Try.prog 90 [(0, 1), (1, 1), (2, 1), (3, 1), (4, 1), (5, 1)] := ⟨_, Try.underlying90, fun w => by kernel_rfl⟩
theorem places107 : Places Try.prog 107 [(0, 1), (1, 1), (2, 256)] := ⟨_, Try.underlying107, fun w => by kernel_rfl⟩
theorem places108 : Places Try.prog 108 [(0, 1), (1, 1), (2, 256)] := ⟨_, Try.underlying108, fun w => by kernel_rfl⟩
theorem places114 : Places Try.prog 114 [(0, 1), (1, 1), (2, 1)] := ⟨_, Try.underlying114, fun w => by kernel_rfl⟩
theorem places115 : Places Try.prog 115 [(0, 1), (1, 1), (2, 1)] := ⟨_, Try.underlying115, fun w => by kernel_rfl⟩
theorem places117 : Places Try.prog 117 [(0, 1), (1, 1)] := ⟨_, Try.underlying117, fun w => by kernel_rfl⟩
theorem places118 : Places Try.prog 118 [(0, 1), (1, 1)] := ⟨_, Try.underlying118, fun w => by kernel_rfl⟩
theorem places126 : Places Try.prog 126 [(0, 256), (256, 1)] := ⟨_, Try.underlying126, fun w => by kernel_rfl⟩
theorem places127 : Places Try.prog 127 [(0, 256), (256, 1)] := ⟨_, Try.underlying127, fun w => by kernel_rfl⟩
theorem places136 : Places Try.prog 136 [(0, 1), (1, 256)] := ⟨_, Try.underlying136, fun w => by kernel_rfl⟩
theorem places137 : Places Try.prog 137 [(0, 1), (1, 256)] := ⟨_, Try.underlying137, fun w => by kernel_rfl⟩
theorem places144 : Places Try.prog 144 [(0, 256), (256, 1)] := ⟨_, Try.underlying144, fun w => by kernel_rfl⟩
theorem places145 : Places Try.prog 145 [(0, 256), (256, 1)] := ⟨_, Try.underlying145, fun w => by kernel_rfl⟩
theorem places158 : Places Try.prog 158 [(0, 1), (1, 1)] := ⟨_, Try.underlying158, fun w => by kernel_rfl⟩
theorem places159 : Places Try.prog 159 [(0, 1), (1, 1)] := ⟨_, Try.underlying159, fun w => by kernel_rfl⟩
theorem places194 : Places Try.prog 194 [(0, 1), (1, 1), (2, 1), (3, 1)] := ⟨_, Try.underlying194, fun w => by kernel_rfl⟩
theorem places195 : Places Try.prog 195 [(0, 1), (1, 1), (2, 1), (3, 1)] := ⟨_, Try.underlying195, fun w => by kernel_rfl⟩
theorem places197 : Places Try.prog 197 [(0, 0)] := ⟨_, Try.underlying197, fun w => by kernel_rfl⟩
theorem places198 : Places Try.prog 198 [(0, 0)] := ⟨_, Try.underlying198, fun w => by kernel_rfl⟩
theorem places206 : Places Try.prog 206 [(0, 1), (1, 1), (2, 1), (3, 1), (4, 1), (5, 1), (6, 1), (7, 1), (8, 1), (9, 1), (10, 1)] := ⟨_, Try.underlying206, fun w => by kernel_rfl⟩
theorem places207 : Places Try.prog 207 [(0, 1), (1, 1), (2, 1), (3, 1), (4, 1), (5, 1), (6, 1), (7, 1), (8, 1), (9, 1), (10, 1)] := ⟨_, Try.underlying207, fun w => by kernel_rfl⟩
end Go.Proofs.Ytgmhijlcdadaeaa
