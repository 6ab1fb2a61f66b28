/- Where the fields of the program's structs lie: closed facts, printed by a program of ours. -/
import Derived.Test.YtjjhihlmoecmlaaEngD
import Derived.Test.YtjjhihlmoecmlaaProg
set_option maxRecDepth 100000
namespace Go.Proofs.Ytjjhihlmoecmlaa
open Go
theorem follows : Try.prog.follows .mixedOrders = true := by kernel_rfl
theorem places7 : Places Try.prog 7 [(0, 1), (1, 1), (2, 1), (3, 1)] := ⟨_, Try.underlying7, fun w => by kernel_rfl⟩
theorem places8 : Places Try.prog 8 [(0, 1), (1, 1), (2, 1), (3, 1)] := ⟨_, Try.underlying8, fun w => by kernel_rfl⟩
theorem places13 : Places Try.prog 13 [(0, 1), (1, 1)] := ⟨_, Try.underlying13, fun w => by kernel_rfl⟩
theorem places14 : Places Try.prog 14 [(0, 1), (1, 1)] := ⟨_, Try.underlying14, fun w => by kernel_rfl⟩
theorem places18 : Places Try.prog 18 [(0, 1)] := ⟨_, Try.underlying18, fun w => by kernel_rfl⟩
theorem places19 : Places Try.prog 19 [(0, 1)] := ⟨_, Try.underlying19, fun w => by kernel_rfl⟩
theorem places29 : Places Try.prog 29 [(0, 1), (1, 1), (2, 1), (3, 1), (4, 1), (5, 1)] := ⟨_, Try.underlying29, fun w => by kernel_rfl⟩
theorem places30 : Places Try.prog 30 [(0, 1), (1, 1), (2, 1), (3, 1), (4, 1), (5, 1)] := ⟨_, Try.underlying30, fun w => by kernel_rfl⟩
theorem places34 : Places Try.prog 34 [(0, 1), (1, 1), (2, 1), (3, 1), (4, 1), (5, 1)] := ⟨_, Try.underlying34, fun w => by kernel_rfl⟩
theorem places35 : Places Try.prog 35 [(0, 1), (1, 1), (2, 1), (3, 1), (4, 1), (5, 1)] := ⟨_, Try.underlying35, fun w => by kernel_rfl⟩
theorem places47 : Places Try.prog 47 [(0, 1), (1, 1)] := ⟨_, Try.underlying47, fun w => by kernel_rfl⟩
theorem places48 : Places Try.prog 48 [(0, 1), (1, 1)] := ⟨_, Try.underlying48, fun w => by kernel_rfl⟩
theorem places52 : Places Try.prog 52 [(0, 6), (6, 1), (7, 1), (8, 1)] := ⟨_, Try.underlying52, fun w => by kernel_rfl⟩
theorem places53 : Places Try.prog 53 [(0, 6), (6, 1), (7, 1), (8, 1)] := ⟨_, Try.underlying53, fun w => by kernel_rfl⟩
theorem places62 : Places Try.prog 62 [(0, 1), (1, 1)] := ⟨_, Try.underlying62, fun w => by kernel_rfl⟩
theorem places63 : Places Try.prog 63 [(0, 1), (1, 1)] := ⟨_, Try.underlying63, fun w => by kernel_rfl⟩
theorem places85 : Places Try.prog 85 [(0, 1), (1, 1), (2, 1), (3, 1), (4, 1)] := ⟨_, Try.underlying85, fun w => by kernel_rfl⟩
theorem places86 : Places Try.prog 86 [(0, 1), (1, 1), (2, 1), (3, 1), (4, 1)] := ⟨_, Try.underlying86, fun w => by kernel_rfl⟩
theorem places89 : Places Try.prog 89 [(0, 1), (1, 1), (2, 2)] := ⟨_, Try.underlying89, fun w => by kernel_rfl⟩
theorem places90 : Places Try.prog 90 [(0, 1), (1, 1), (2, 2)] := ⟨_, Try.underlying90, fun w => by kernel_rfl⟩
theorem places93 : Places Try.prog 93 [(0, 1), (1, 1)] := ⟨_, Try.underlying93, fun w => by kernel_rfl⟩
theorem places94 : Places Try.prog 94 [(0, 1), (1, 1), (2, 1), (3, 1), (4, 1), (5, 1)] := ⟨_, Try.underlying94, fun w => by kernel_rfl⟩
theorem places95 : Places Try.prog 95 [(0, 1), (1, 1), (2, 1), (3, 1), (4, 1), (5, 1)] := ⟨_, Try.underlying95, fun w => by kernel_rfl⟩
theorem places101 : Places Try.prog 101 [(0, 1), (1, 1), (2, 1), (3, 1)] := ⟨_, Try.underlying101, fun w => by kernel_rfl⟩
theorem places102 : Places Try.prog 102 [(0, 1), (1, 1), (2, 1), (3, 1)] := ⟨_, Try.underlying102, fun w => by kernel_rfl⟩
theorem places103 : Places Try.prog 103 [(0, 1), (1, 1), (2, 1)] := ⟨_, Try.underlying103, fun w => by kernel_rfl⟩
theorem places104 : Places Try.prog 104 [(0, 1), (1, 1), (2, 1)] := ⟨_, Try.underlying104, fun w => by kernel_rfl⟩
theorem places111 : Places Try.prog 111 [(0, 1), (1, 1)] := ⟨_, Try.underlying111, fun w => by kernel_rfl⟩
theorem places112 : Places Try.prog 112 [(0, 1), (1, 1)] := ⟨_, Try.underlying112, fun w => by kernel_rfl⟩
theorem places114 : Places Try.prog 114 [(0, 1), (1, 1), (2, 1)] := ⟨_, Try.underlying114, fun w => by kernel_rfl⟩
theorem places115 : Places Try.prog 115 [(0, 1), (1, 1), (2, 1)] := ⟨_, Try.underlying115, fun w => by kernel_rfl⟩
theorem places124 : Places Try.prog 124 [(0, 1), (1, 1), (2, 1)] := ⟨_, Try.underlying124, fun w => by kernel_rfl⟩
theorem places125 : Places Try.prog 125 [(0, 1), (1, 1), (2, 1)] := ⟨_, Try.underlying125, fun w => by kernel_rfl⟩
theorem places135 : Places Try.prog 135 [(0, 1), (1, 1), (2, 1), (3, 1)] := ⟨_, Try.underlying135, fun w => by kernel_rfl⟩
theorem places136 : Places Try.prog 136 [(0, 1), (1, 1), (2, 1), (3, 1)] := ⟨_, Try.underlying136, fun w => by kernel_rfl⟩
theorem places138 : Places Try.prog 138 [(0, 0)] := ⟨_, Try.underlying138, fun w => by kernel_rfl⟩
theorem places139 : Places Try.prog 139 [(0, 0)] := ⟨_, Try.underlying139, fun w => by kernel_rfl⟩
theorem places147 : Places Try.prog 147 [(0, 1), (1, 1), (2, 1), (3, 1), (4, 1), (5, 1), (6, 1), (7, 1), (8, 1), (9, 1), (10, 1)] := ⟨_, Try.underlying147, fun w => by kernel_rfl⟩
theorem places148 : Places Try.prog 148 [(0, 1), (1, 1), (2, 1), (3, 1), (4, 1), (5, 1), (6, 1), (7, 1), (8, 1), (9, 1), (10, 1)] := ⟨_, Try.underlying148, fun w => by kernel_rfl⟩
end Go.Proofs.Ytjjhihlmoecmlaa
