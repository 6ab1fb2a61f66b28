/- The stack's page, as plain data. -/
import Derived.Test.YtgfbdiibndbbjaaCom
set_option linter.unusedVariables false
set_option linter.unusedSimpArgs false
set_option maxRecDepth 100000
namespace Go.Proofs.Ytgfbdiibndbbjaa
open Go
/-- Bytes laid over a row, from a place on. -/
def lay (p : Bytes) (k : Nat) (b : Bytes) : Bytes := p.take k ++ b ++ p.drop (k + b.length)
theorem lay_length {p : Bytes} {k : Nat} {b : Bytes} (h : k + b.length ≤ p.length) : (lay p k b).length = p.length := by
  simp only [lay, List.length_append, List.length_take, List.length_drop]; omega
theorem lay_nil (p : Bytes) (k : Nat) : lay p k [] = p := by simp [lay]
theorem lay_lay {p : Bytes} {k : Nat} {a b : Bytes} (h : k + a.length ≤ p.length) : lay (lay p k a) (k + a.length) b = lay p k (a ++ b) := by
  have h1 : (p.take k ++ a).length = k + a.length := by rw [List.length_append, List.length_take]; omega
  rw [lay, lay, lay, List.take_append_of_le_length (by omega), List.take_of_length_le (by omega)]
  rw [List.drop_append, List.drop_of_length_le (by omega), List.nil_append, List.drop_drop, h1]
  simp only [List.append_assoc, List.length_append]
  congr 3; congr 1; omega
theorem lay_snoc_set {p : Bytes} {k : Nat} {a : Bytes} {x : UInt8} (h : k + a.length < p.length) : (lay p k a).set (k + a.length) x = lay p k (a ++ [x]) := by
  have h1 : (p.take k ++ a).length = k + a.length := by rw [List.length_append, List.length_take]; omega
  rw [lay, List.set_append_right _ _ (by omega), h1, Nat.sub_self, lay]
  have : p.drop (k + a.length) = p[k + a.length] :: p.drop (k + a.length + 1) := List.drop_eq_getElem_cons h
  rw [this, List.set_cons_zero, List.length_append, List.length_singleton, List.append_assoc, List.append_assoc, List.append_assoc]; rfl
theorem bytesV_set (p : Bytes) (k : Nat) (x : UInt8) : (bytesV p).set k (.int .u8 (x.toNat : Int)) = bytesV (p.set k x) := by rw [bytesV, bytesV, List.map_set]
theorem bytesV_lay (p : Bytes) (k : Nat) (b : Bytes) : (bytesV p).take k ++ bytesV b ++ (bytesV p).drop (k + b.length) = bytesV (lay p k b) := by
  simp only [bytesV, lay, List.map_append, List.map_take, List.map_drop]
/-- A number's bytes, the least first. -/
def byteAt (x : Int) (j : Nat) : UInt8 := UInt8.ofNat (x.toNat / 2 ^ (8 * j) % 256)
def le32 (x : Int) : Bytes := [byteAt x 0, byteAt x 1, byteAt x 2, byteAt x 3]
theorem byteAt_toNat (x : Int) (j : Nat) : ((byteAt x j).toNat : Int) = ((x.toNat / 2 ^ (8 * j) % 256 : Nat) : Int) := by
  rw [byteAt, UInt8.toNat_ofNat']; congr 1; omega
end Go.Proofs.Ytgfbdiibndbbjaa
