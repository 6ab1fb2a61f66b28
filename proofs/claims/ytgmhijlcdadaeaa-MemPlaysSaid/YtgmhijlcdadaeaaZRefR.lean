import Derived.Test.YtgmhijlcdadaeaaZRefJ
import Derived.Test.YtgmhijlcdadaeaaZComX
import Derived.Test.YtgmhijlcdadaeaaZEngR2
set_option linter.unusedVariables false
set_option linter.unusedSimpArgs false
set_option maxRecDepth 100000
namespace Go.Proofs.Ytgmhijlcdadaeaa
open Go Go.ChangeShapes Go.WideShapes Go.ChangeAt Go.RowKit
theorem cells_3_RefR : Try.prog.cellsOf 3 = 1 := by kernel_rfl
theorem cells_25_RefR : Try.prog.cellsOf 25 = 1 := by kernel_rfl
theorem cells_38_RefR : Try.prog.cellsOf 38 = 1 := by kernel_rfl
theorem cells_5_RefR : Try.prog.cellsOf 5 = 1 := by kernel_rfl
theorem bytes_5_RefR : 1 ≤ Try.prog.bytesOf 5 := of_decide_eq_true (by kernel_rfl)
theorem cells_90_RefR : Try.prog.cellsOf 90 = 6 := by kernel_rfl
theorem bytes_90_RefR : 1 ≤ Try.prog.bytesOf 90 := of_decide_eq_true (by kernel_rfl)
theorem Rdd.rActM {w : World} {cs : List Value} (h : Rdd Try.prog w 90 cs) : ∃ x : ActM, cs = x.cells ∧ x.Rd (whole w) := by
  obtain ⟨h1, h3⟩ := Rdd.struct Try.underlying90 h
  rw [cells_90_RefR] at h1
  match cs, h1 with
  | [c0, c1, c2, c3, c4, c5], _ =>
    have f0 := Rdd.cut [c0] (h3 0 _ rfl) cells_3_RefR rfl
    obtain ⟨x0, q0, r0⟩ := Rdd.int Try.underlying3 f0
    injection q0 with q0
    have f1 := Rdd.cut [c1] (h3 1 _ rfl) cells_25_RefR rfl
    obtain ⟨z1, q1, w1⟩ := Rdd.int Try.underlying25 f1
    obtain ⟨x1, rfl, r1⟩ := wf_u32 w1
    injection q1 with q1
    have f2 := Rdd.cut [c2] (h3 2 _ rfl) cells_25_RefR rfl
    obtain ⟨z2, q2, w2⟩ := Rdd.int Try.underlying25 f2
    obtain ⟨x2, rfl, r2⟩ := wf_u32 w2
    injection q2 with q2
    have f3 := Rdd.cut [c3] (h3 3 _ rfl) cells_3_RefR rfl
    obtain ⟨x3, q3, r3⟩ := Rdd.int Try.underlying3 f3
    injection q3 with q3
    have f4 := Rdd.cut [c4] (h3 4 _ rfl) cells_3_RefR rfl
    obtain ⟨x4, q4, r4⟩ := Rdd.int Try.underlying3 f4
    injection q4 with q4
    have f5 := Rdd.cut [c5] (h3 5 _ rfl) cells_38_RefR rfl
    obtain ⟨x5, q5, r5⟩ := Rdd.u8s Try.underlying38 Try.underlying5 cells_5_RefR bytes_5_RefR f5
    injection q5 with q5
    exact ⟨⟨x0, x1, x2, x3, x4, x5⟩, by rw [q0, q1, q2, q3, q4, q5]; rfl, ⟨r0, r1, r2, r3, r4, r5⟩⟩
theorem Rdd.rActMs {w : World} {t : TypeId} {cs : List Value} (hu : Try.prog.underlying t = some (.slice 90)) (h : Rdd Try.prog w t cs) : ∃ s : Sl ActM, cs = [s.v] ∧ RdActMs s (whole w) := by
  obtain ⟨A, len, cap, rows, e0, hl, hrow, hrd⟩ := Rdd.slice hu cells_90_RefR bytes_90_RefR h
  obtain ⟨xs, rfl, hx⟩ := rows_of (c := ActM.cells) (I := fun x => x.Rd (whole w)) (fun r hr => Rdd.rActM (hrow r hr).2)
  rw [List.length_map] at hl
  subst hl
  exact ⟨⟨A, cap, xs⟩, e0, by rw [← List.flatMap_def] at hrd; exact hrd, hx⟩
theorem w14 (W : World) {b : Nat} (v0 v1 : Value) (o0 : Value.okWide Try.prog W .any b 3 v0) (o1 : Value.okWide Try.prog W .any b 82 v1) (q0 : Rdd Try.prog W 3 v0.cells.toList) (q1 : Rdd Try.prog W 82 v1.cells.toList) :
    Calls Try.prog 14 #[v0, v1] W fun e w' => e = .returned (.bool true) ∧ Below W.heap.size W w' := by
  obtain ⟨n0, e0, f0⟩ := Rdd.int Try.underlying3 q0
  obtain rfl := val_int (w := W) Try.underlying3 o0 e0
  obtain ⟨l0, h0⟩ := wf_i64 f0
  obtain ⟨s1, e1, r1⟩ := Rdd.rActMs Try.underlying82 q1
  obtain rfl := val_slice (w := W) Try.underlying82 o1 e1
  exact (memPlays_spec n0 s1 l0 h0).walk W r1
end Go.Proofs.Ytgmhijlcdadaeaa
