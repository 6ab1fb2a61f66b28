/- What slices of integers, of bytes, of strings read as. -/
import Derived.Test.YtjjhihlmoecmlaaCom
import Derived.Test.YtjjhihlmoecmlaaEngR
set_option linter.unusedVariables false
set_option linter.unusedSimpArgs false
set_option maxRecDepth 100000
namespace Go.Proofs.Ytjjhihlmoecmlaa
open Go Go.ChangeShapes Go.WideShapes Go.ChangeAt Go.RowKit
theorem wf_i64 {n : Int} (h : (Lit.int .i64 n).wf = true) : -9223372036854775808 ≤ n ∧ n ≤ 9223372036854775807 := by
  rw [Lit.wf, Bool.and_eq_true] at h
  exact ⟨of_decide_eq_true h.1, of_decide_eq_true h.2⟩
theorem wf_i32 {n : Int} (h : (Lit.int .i32 n).wf = true) : -2147483648 ≤ n ∧ n ≤ 2147483647 := by
  rw [Lit.wf, Bool.and_eq_true] at h
  exact ⟨of_decide_eq_true h.1, of_decide_eq_true h.2⟩
theorem wf_u32 {n : Int} (h : (Lit.int .u32 n).wf = true) : ∃ m : Nat, n = m ∧ m < 4294967296 := by
  rw [Lit.wf, Bool.and_eq_true] at h
  have h1 : 0 ≤ n := of_decide_eq_true h.1
  have h2 : n ≤ 4294967295 := of_decide_eq_true h.2
  exact ⟨n.toNat, by omega, by omega⟩
theorem wf_u8 {n : Int} (h : (Lit.int .u8 n).wf = true) : ∃ m : Nat, n = m ∧ m < 256 := by
  rw [Lit.wf, Bool.and_eq_true] at h
  have h1 : 0 ≤ n := of_decide_eq_true h.1
  have h2 : n ≤ 255 := of_decide_eq_true h.2
  exact ⟨n.toNat, by omega, by omega⟩
/-- A slice of integers, as an argument or a field. -/
theorem Rdd.ints {w : World} {t e : TypeId} {cs : List Value} {k : IntKind} (hu : Try.prog.underlying t = some (.slice e)) (he : Try.prog.underlying e = some (.int k)) (hm : Try.prog.cellsOf e = 1) (hb : 1 ≤ Try.prog.bytesOf e) (h : Rdd Try.prog w t cs) :
    ∃ s : Sl Int, cs = [s.v] ∧ RdI k s (whole w) ∧ ∀ x ∈ s.xs, (Lit.int k x).wf = true := by
  obtain ⟨A, len, cap, rows, e0, hl, hrow, hrd⟩ := Rdd.slice hu hm hb h
  obtain ⟨xs, rfl, hx⟩ := rows_of (c := fun x => [Value.int k x]) (I := fun x => (Lit.int k x).wf = true) (fun r hr => by
    obtain ⟨n, h1, h2⟩ := Rdd.int he (hrow r hr).2; exact ⟨n, h1, h2⟩)
  rw [flat_one] at hrd
  rw [List.length_map] at hl
  subst hl
  exact ⟨⟨A, cap, xs⟩, e0, hrd, hx⟩
theorem Rdd.u8s {w : World} {t e : TypeId} {cs : List Value} (hu : Try.prog.underlying t = some (.slice e)) (he : Try.prog.underlying e = some (.int .u8)) (hm : Try.prog.cellsOf e = 1) (hb : 1 ≤ Try.prog.bytesOf e) (h : Rdd Try.prog w t cs) :
    ∃ s : Sl UInt8, cs = [s.v] ∧ RdB s (whole w) := by
  obtain ⟨A, len, cap, rows, e0, hl, hrow, hrd⟩ := Rdd.slice hu hm hb h
  obtain ⟨xs, rfl, hx⟩ := rows_of (c := fun x : UInt8 => [Value.int .u8 (x.toNat : Int)]) (I := fun x => True) (fun r hr => by
    obtain ⟨n, h1, h2⟩ := Rdd.int he (hrow r hr).2
    rw [Lit.wf, Bool.and_eq_true] at h2
    refine ⟨UInt8.ofNat n.toNat, ?_, trivial⟩
    rw [h1]
    have : ((UInt8.ofNat n.toNat).toNat : Int) = n := by
      rw [UInt8.toNat_ofNat']
      have h3 : 0 ≤ n := of_decide_eq_true h2.1
      have h4 : n ≤ 255 := of_decide_eq_true h2.2
      omega
    rw [this])
  rw [flat_one] at hrd
  rw [List.length_map] at hl
  subst hl
  exact ⟨⟨A, cap, xs⟩, e0, hrd⟩
theorem Rdd.strs {w : World} {t e : TypeId} {cs : List Value} (hu : Try.prog.underlying t = some (.slice e)) (he : Try.prog.underlying e = some .string) (hm : Try.prog.cellsOf e = 1) (hb : 1 ≤ Try.prog.bytesOf e) (h : Rdd Try.prog w t cs) :
    ∃ s : Sl ByteArray, cs = [s.v] ∧ RdStr s (whole w) := by
  obtain ⟨A, len, cap, rows, e0, hl, hrow, hrd⟩ := Rdd.slice hu hm hb h
  obtain ⟨xs, rfl, hx⟩ := rows_of (c := fun x : ByteArray => [Value.string x]) (I := fun x => True) (fun r hr => by
    obtain ⟨n, h1, _⟩ := Rdd.string he (hrow r hr).2; exact ⟨n, h1, trivial⟩)
  rw [flat_one] at hrd
  rw [List.length_map] at hl
  subst hl
  exact ⟨⟨A, cap, xs⟩, e0, hrd⟩
end Go.Proofs.Ytjjhihlmoecmlaa
