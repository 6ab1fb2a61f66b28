/- Where the fields of the program's structs lie: closed facts, printed by a program of ours. -/
import Derived.Test.YtgfbdiibndbbjaaEngX
import Derived.Test.YtgfbdiibndbbjaaProg
set_option maxRecDepth 100000
namespace Go.Proofs.Ytgfbdiibndbbjaa
open Go
theorem follows : Try.prog.follows .mixedOrders = true := by kernel_rfl
theorem places7 : Places Try.prog 7 [(0, 1), (1, 1), (2, 1), (3, 1)] := ⟨_, Try.underlying7, fun w => by kernel_rfl⟩
theorem places8 : Places Try.prog 8 [(0, 1), (1, 1), (2, 1), (3, 1)] := ⟨_, Try.underlying8, fun w => by kernel_rfl⟩
theorem places13 : Places Try.prog 13 [(0, 1), (1, 1)] := ⟨_, Try.underlying13, fun w => by kernel_rfl⟩
theorem places14 : Places Try.prog 14 [(0, 1), (1, 1)] := ⟨_, Try.underlying14, fun w => by kernel_rfl⟩
theorem places18 : Places Try.prog 18 [(0, 1)] := ⟨_, Try.underlying18, fun w => by kernel_rfl⟩
theorem places19 : Places Try.prog 19 [(0, 1)] := ⟨_, Try.underlying19, fun w => by kernel_rfl⟩
theorem places31 : Places Try.prog 31 [(0, 1), (1, 1)] := ⟨_, Try.underlying31, fun w => by kernel_rfl⟩
theorem places32 : Places Try.prog 32 [(0, 1), (1, 1)] := ⟨_, Try.underlying32, fun w => by kernel_rfl⟩
theorem places49 : Places Try.prog 49 [(0, 1), (1, 1), (2, 1), (3, 1), (4, 1), (5, 1)] := ⟨_, Try.underlying49, fun w => by kernel_rfl⟩
theorem places50 : Places Try.prog 50 [(0, 1), (1, 1), (2, 1), (3, 1), (4, 1), (5, 1)] := ⟨_, Try.underlying50, fun w => by kernel_rfl⟩
theorem places65 : Places Try.prog 65 [(0, 1), (1, 1)] := ⟨_, Try.underlying65, fun w => by kernel_rfl⟩
theorem places71 : Places Try.prog 71 [(0, 1), (1, 1), (2, 1)] := ⟨_, Try.underlying71, fun w => by kernel_rfl⟩
theorem places72 : Places Try.prog 72 [(0, 1), (1, 1), (2, 1)] := ⟨_, Try.underlying72, fun w => by kernel_rfl⟩
theorem places78 : Places Try.prog 78 [(0, 1), (1, 1), (2, 1)] := ⟨_, Try.underlying78, fun w => by kernel_rfl⟩
theorem places79 : Places Try.prog 79 [(0, 1), (1, 1), (2, 1)] := ⟨_, Try.underlying79, fun w => by kernel_rfl⟩
theorem places86 : Places Try.prog 86 [(0, 256), (256, 1)] := ⟨_, Try.underlying86, fun w => by kernel_rfl⟩
theorem places87 : Places Try.prog 87 [(0, 256), (256, 1)] := ⟨_, Try.underlying87, fun w => by kernel_rfl⟩
theorem places101 : Places Try.prog 101 [(0, 1), (1, 1), (2, 256)] := ⟨_, Try.underlying101, fun w => by kernel_rfl⟩
theorem places102 : Places Try.prog 102 [(0, 1), (1, 1), (2, 256)] := ⟨_, Try.underlying102, fun w => by kernel_rfl⟩
theorem places109 : Places Try.prog 109 [(0, 1), (1, 1)] := ⟨_, Try.underlying109, fun w => by kernel_rfl⟩
theorem places110 : Places Try.prog 110 [(0, 1), (1, 1)] := ⟨_, Try.underlying110, fun w => by kernel_rfl⟩
theorem places138 : Places Try.prog 138 [(0, 1), (1, 1), (2, 1), (3, 1)] := ⟨_, Try.underlying138, fun w => by kernel_rfl⟩
theorem places139 : Places Try.prog 139 [(0, 1), (1, 1), (2, 1), (3, 1)] := ⟨_, Try.underlying139, fun w => by kernel_rfl⟩
theorem places141 : Places Try.prog 141 [(0, 0)] := ⟨_, Try.underlying141, fun w => by kernel_rfl⟩
theorem places142 : Places Try.prog 142 [(0, 0)] := ⟨_, Try.underlying142, fun w => by kernel_rfl⟩
theorem places150 : Places Try.prog 150 [(0, 1), (1, 1), (2, 1), (3, 1), (4, 1), (5, 1), (6, 1), (7, 1), (8, 1), (9, 1), (10, 1)] := ⟨_, Try.underlying150, fun w => by kernel_rfl⟩
theorem places151 : Places Try.prog 151 [(0, 1), (1, 1), (2, 1), (3, 1), (4, 1), (5, 1), (6, 1), (7, 1), (8, 1), (9, 1), (10, 1)] := ⟨_, Try.underlying151, fun w => by kernel_rfl⟩
end Go.Proofs.Ytgfbdiibndbbjaa
