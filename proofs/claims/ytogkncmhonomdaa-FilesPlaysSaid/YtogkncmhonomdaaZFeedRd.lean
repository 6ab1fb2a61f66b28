import Derived.Test.YtogkncmhonomdaaZFeedW
import Derived.Test.YtogkncmhonomdaaZComX
set_option linter.unusedVariables false
set_option linter.unusedSimpArgs false
set_option maxRecDepth 100000
namespace Go.Proofs.Ytogkncmhonomdaa
open Go Go.ChangeShapes Go.WideShapes Go.ChangeAt Go.RowKit
theorem fcells_str : Try.prog.cellsOf 9 = 1 := by kernel_rfl
theorem fbytes_str : 1 ≤ Try.prog.bytesOf 9 := of_decide_eq_true (by kernel_rfl)
theorem fcells_u8 : Try.prog.cellsOf 5 = 1 := by kernel_rfl
theorem fbytes_u8 : 1 ≤ Try.prog.bytesOf 5 := of_decide_eq_true (by kernel_rfl)
theorem fcells_int : Try.prog.cellsOf 3 = 1 := by kernel_rfl
theorem fbytes_int : 1 ≤ Try.prog.bytesOf 3 := of_decide_eq_true (by kernel_rfl)
theorem fcells_u32 : Try.prog.cellsOf 87 = 1 := by kernel_rfl
theorem fbytes_u32 : 1 ≤ Try.prog.bytesOf 87 := of_decide_eq_true (by kernel_rfl)
theorem fcells_strs : Try.prog.cellsOf 22 = 1 := by kernel_rfl
theorem fcells_u8s : Try.prog.cellsOf 23 = 1 := by kernel_rfl
theorem fcells_ints : Try.prog.cellsOf 24 = 1 := by kernel_rfl
theorem fcells_u32s : Try.prog.cellsOf 25 = 1 := by kernel_rfl
theorem fcells_files : Try.prog.cellsOf 26 = 1 := by kernel_rfl
theorem fcells_file : Try.prog.cellsOf 63 = 2 := by kernel_rfl
theorem fbytes_file : 1 ≤ Try.prog.bytesOf 63 := of_decide_eq_true (by kernel_rfl)
theorem fcells_feed : Try.prog.cellsOf 28 = 6 := by kernel_rfl
theorem Rdd.ffiles {w : World} {cs : List Value} (h : Rdd Try.prog w 26 cs) : ∃ s : Sl FileG, cs = [s.v] ∧ RdFiles s (whole w) := by
  obtain ⟨A, len, cap, rows, e0, hl, hrow, hrd⟩ := Rdd.slice Try.underlying26 fcells_file fbytes_file h
  obtain ⟨xs, rfl, hx⟩ := rows_of (c := FileG.cells) (I := fun x => RdB x.data (whole w)) (fun r hr => by
    obtain ⟨h1, h2⟩ := hrow r hr
    obtain ⟨_, h3⟩ := Rdd.struct Try.underlying63 h2
    match r, h1 with
    | [c0, c1], _ =>
      have f0 := Rdd.cut [c0] (h3 0 _ rfl) fcells_str rfl
      have f1 := Rdd.cut [c1] (h3 1 _ rfl) fcells_u8s rfl
      obtain ⟨x, q0, _⟩ := Rdd.string Try.underlying9 f0
      obtain ⟨y, q1, q2⟩ := Rdd.u8s Try.underlying23 Try.underlying5 fcells_u8 fbytes_u8 f1
      injection q0 with q0
      injection q1 with q1
      exact ⟨⟨x, y⟩, by rw [q0, q1]; rfl, q2⟩)
  rw [List.length_map] at hl
  subst hl
  exact ⟨⟨A, cap, xs⟩, e0, by rw [← List.flatMap_def] at hrd; exact hrd, hx⟩
theorem Rdd.feedW {w : World} {cs : List Value} (h : Rdd Try.prog w 28 cs) : ∃ f : FeedG, cs = f.cells ∧ RdFeed f (whole w) ∧ ∀ x ∈ f.clock.xs, 0 ≤ x ∧ x < 4294967296 := by
  obtain ⟨h1, h3⟩ := Rdd.struct Try.underlying28 h
  rw [fcells_feed] at h1
  match cs, h1 with
  | [c0, c1, c2, c3, c4, c5], _ =>
    have f0 := Rdd.cut [c0] (h3 0 _ rfl) fcells_strs rfl
    have f1 := Rdd.cut [c1] (h3 1 _ rfl) fcells_u8s rfl
    have f2 := Rdd.cut [c2] (h3 2 _ rfl) fcells_ints rfl
    have f3 := Rdd.cut [c3] (h3 3 _ rfl) fcells_u8s rfl
    have f4 := Rdd.cut [c4] (h3 4 _ rfl) fcells_u32s rfl
    have f5 := Rdd.cut [c5] (h3 5 _ rfl) fcells_files rfl
    obtain ⟨x0, q0, r0⟩ := Rdd.strs Try.underlying22 Try.underlying9 fcells_str fbytes_str f0
    obtain ⟨x1, q1, r1⟩ := Rdd.u8s Try.underlying23 Try.underlying5 fcells_u8 fbytes_u8 f1
    obtain ⟨x2, q2, r2, _⟩ := Rdd.ints Try.underlying24 Try.underlying3 fcells_int fbytes_int f2
    obtain ⟨x3, q3, r3⟩ := Rdd.u8s Try.underlying23 Try.underlying5 fcells_u8 fbytes_u8 f3
    obtain ⟨x4, q4, r4, r4w⟩ := Rdd.ints Try.underlying25 Try.underlying87 fcells_u32 fbytes_u32 f4
    obtain ⟨x5, q5, r5⟩ := Rdd.ffiles f5
    injection q0 with q0
    injection q1 with q1
    injection q2 with q2
    injection q3 with q3
    injection q4 with q4
    injection q5 with q5
    refine ⟨⟨x0, x1, x2, x3, x4, x5⟩, by rw [q0, q1, q2, q3, q4, q5]; rfl, ⟨r0, r1, r2, r3, r4, r5⟩, fun x hx => ?_⟩
    obtain ⟨n, rfl, hn⟩ := wf_u32 (r4w x hx)
    exact ⟨Int.natCast_nonneg n, by omega⟩
end Go.Proofs.Ytogkncmhonomdaa
