import Derived.Test.YtgmhijlcdadaeaaZShP
import Derived.Test.YtgmhijlcdadaeaaZEngV3
set_option linter.unusedVariables false
set_option linter.unusedSimpArgs false
set_option maxRecDepth 100000
namespace Go.Proofs.Ytgmhijlcdadaeaa
open Go
theorem tag_guard : Try.prog.eqGuardType Try.prog.depth 64 = false := by kernel_rfl
theorem tag_info : (Try.prog.info? 5).isSome = true := by kernel_rfl
theorem tag_cells : Try.prog.cellsOf 5 = 1 := by kernel_rfl
theorem tag_eq {a b : Bytes} (ha : a.length = 4) (hb : b.length = 4) (w : World) : (Op.equalIn 10000 64 (.agg (bytesV a).toArray) (.agg (bytesV b).toArray)).run Try.prog w = .ok (decide (a = b)) w := by
  rw [bytesV_int, bytesV_int, equal_arr (d := 9998) Try.underlying64 tag_info tag_cells Try.isAgg5 Try.underlying5 (by rw [List.length_map]; exact ha) (by rw [List.length_map]; exact hb), bytes_dec]
def kS1 : ShG := (fillM ⟨2, []⟩ 4294967294 9 3).2
def kS2 : ShG := (setM kS1 254 [1, 2, 0]).2
def kS3 : ShG := clearM kS2 4294967294 1
def kS4 : ShG := (putM kS3 4294967295 4 [0, 0, 0, 0]).2
end Go.Proofs.Ytgmhijlcdadaeaa
