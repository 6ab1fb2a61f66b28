/- Where the fields of the program's structs lie: closed facts, printed by a program of ours. -/
import Derived.Test.YtogllfnadgikiaaEngX
import Derived.Test.YtogllfnadgikiaaProg
set_option maxRecDepth 100000
namespace Go.Proofs.Ytogllfnadgikiaa
open Go
theorem follows : Try.prog.follows .mixedOrders = true := by kernel_rfl
theorem places7 : Places Try.prog 7 [(0, 1), (1, 1), (2, 1), (3, 1)] := ⟨_, Try.underlying7, fun w => by kernel_rfl⟩
theorem places8 : Places Try.prog 8 [(0, 1), (1, 1), (2, 1), (3, 1)] := ⟨_, Try.underlying8, fun w => by kernel_rfl⟩
theorem places13 : Places Try.prog 13 [(0, 1), (1, 1)] := ⟨_, Try.underlying13, fun w => by kernel_rfl⟩
theorem places14 : Places Try.prog 14 [(0, 1), (1, 1)] := ⟨_, Try.underlying14, fun w => by kernel_rfl⟩
theorem places18 : Places Try.prog 18 [(0, 1)] := ⟨_, Try.underlying18, fun w => by kernel_rfl⟩
theorem places19 : Places Try.prog 19 [(0, 1)] := ⟨_, Try.underlying19, fun w => by kernel_rfl⟩
theorem places28 : Places Try.prog 28 [(0, 1), (1, 1), (2, 1)] := ⟨_, Try.underlying28, fun w => by kernel_rfl⟩
theorem places29 : Places Try.prog 29 [(0, 1), (1, 1), (2, 1)] := ⟨_, Try.underlying29, fun w => by kernel_rfl⟩
theorem places31 : Places Try.prog 31 [(0, 1), (1, 1), (2, 1)] := ⟨_, Try.underlying31, fun w => by kernel_rfl⟩
theorem places32 : Places Try.prog 32 [(0, 1), (1, 1), (2, 1)] := ⟨_, Try.underlying32, fun w => by kernel_rfl⟩
theorem places39 : Places Try.prog 39 [(0, 1), (1, 1), (2, 1), (3, 1), (4, 1)] := ⟨_, Try.underlying39, fun w => by kernel_rfl⟩
theorem places40 : Places Try.prog 40 [(0, 1), (1, 1), (2, 1), (3, 1), (4, 1)] := ⟨_, Try.underlying40, fun w => by kernel_rfl⟩
theorem places69 : Places Try.prog 69 [(0, 1), (1, 1), (2, 1), (3, 1), (4, 1), (5, 4)] := ⟨_, Try.underlying69, fun w => by kernel_rfl⟩
theorem places70 : Places Try.prog 70 [(0, 1), (1, 1), (2, 1), (3, 1), (4, 1), (5, 4)] := ⟨_, Try.underlying70, fun w => by kernel_rfl⟩
theorem places75 : Places Try.prog 75 [(0, 1), (1, 1)] := ⟨_, Try.underlying75, fun w => by kernel_rfl⟩
theorem places76 : Places Try.prog 76 [(0, 1), (1, 1)] := ⟨_, Try.underlying76, fun w => by kernel_rfl⟩
theorem places83 : Places Try.prog 83 [(0, 1), (1, 1), (2, 1)] := ⟨_, Try.underlying83, fun w => by kernel_rfl⟩
theorem places84 : Places Try.prog 84 [(0, 1), (1, 1), (2, 1)] := ⟨_, Try.underlying84, fun w => by kernel_rfl⟩
theorem places88 : Places Try.prog 88 [(0, 1), (1, 1), (2, 1), (3, 1), (4, 1)] := ⟨_, Try.underlying88, fun w => by kernel_rfl⟩
theorem places98 : Places Try.prog 98 [(0, 256), (256, 1)] := ⟨_, Try.underlying98, fun w => by kernel_rfl⟩
theorem places99 : Places Try.prog 99 [(0, 256), (256, 1)] := ⟨_, Try.underlying99, fun w => by kernel_rfl⟩
theorem places102 : Places Try.prog 102 [(0, 1), (1, 1), (2, 1)] := ⟨_, Try.underlying102, fun w => by kernel_rfl⟩
theorem places103 : Places Try.prog 103 [(0, 1), (1, 1), (2, 1)] := ⟨_, Try.underlying103, fun w => by kernel_rfl⟩
theorem places109 : Places Try.prog 109 [(0, 1), (1, 1)] := ⟨_, Try.underlying109, fun w => by kernel_rfl⟩
theorem places110 : Places Try.prog 110 [(0, 1), (1, 1)] := ⟨_, Try.underlying110, fun w => by kernel_rfl⟩
theorem places118 : Places Try.prog 118 [(0, 256), (256, 1)] := ⟨_, Try.underlying118, fun w => by kernel_rfl⟩
theorem places119 : Places Try.prog 119 [(0, 256), (256, 1)] := ⟨_, Try.underlying119, fun w => by kernel_rfl⟩
theorem places127 : Places Try.prog 127 [(0, 1), (1, 256)] := ⟨_, Try.underlying127, fun w => by kernel_rfl⟩
theorem places128 : Places Try.prog 128 [(0, 1), (1, 256)] := ⟨_, Try.underlying128, fun w => by kernel_rfl⟩
theorem places133 : Places Try.prog 133 [(0, 1), (1, 1), (2, 1)] := ⟨_, Try.underlying133, fun w => by kernel_rfl⟩
theorem places134 : Places Try.prog 134 [(0, 1), (1, 1), (2, 1)] := ⟨_, Try.underlying134, fun w => by kernel_rfl⟩
theorem places135 : Places Try.prog 135 [(0, 1), (1, 1), (2, 256)] := ⟨_, Try.underlying135, fun w => by kernel_rfl⟩
theorem places136 : Places Try.prog 136 [(0, 1), (1, 1), (2, 256)] := ⟨_, Try.underlying136, fun w => by kernel_rfl⟩
theorem places149 : Places Try.prog 149 [(0, 1), (1, 1)] := ⟨_, Try.underlying149, fun w => by kernel_rfl⟩
theorem places150 : Places Try.prog 150 [(0, 1), (1, 1)] := ⟨_, Try.underlying150, fun w => by kernel_rfl⟩
theorem places180 : Places Try.prog 180 [(0, 1), (1, 1), (2, 1), (3, 1)] := ⟨_, Try.underlying180, fun w => by kernel_rfl⟩
theorem places181 : Places Try.prog 181 [(0, 1), (1, 1), (2, 1), (3, 1)] := ⟨_, Try.underlying181, fun w => by kernel_rfl⟩
theorem places183 : Places Try.prog 183 [(0, 0)] := ⟨_, Try.underlying183, fun w => by kernel_rfl⟩
theorem places184 : Places Try.prog 184 [(0, 0)] := ⟨_, Try.underlying184, fun w => by kernel_rfl⟩
theorem places192 : Places Try.prog 192 [(0, 1), (1, 1), (2, 1), (3, 1), (4, 1), (5, 1), (6, 1), (7, 1), (8, 1), (9, 1), (10, 1)] := ⟨_, Try.underlying192, fun w => by kernel_rfl⟩
theorem places193 : Places Try.prog 193 [(0, 1), (1, 1), (2, 1), (3, 1), (4, 1), (5, 1), (6, 1), (7, 1), (8, 1), (9, 1), (10, 1)] := ⟨_, Try.underlying193, fun w => by kernel_rfl⟩
end Go.Proofs.Ytogllfnadgikiaa
