/- What a feed and a list of calls read as, and the walks of the rows FeedPlays. -/
import Derived.Test.YtjjhihlmoecmlaaFeedQ
import Derived.Test.YtjjhihlmoecmlaaFeedR
set_option linter.unusedVariables false
set_option linter.unusedSimpArgs false
set_option maxRecDepth 100000
namespace Go.Proofs.Ytjjhihlmoecmlaa
open Go Go.ChangeShapes Go.WideShapes Go.ChangeAt Go.RowKit
theorem Rdd.strs {w : World} {t e : TypeId} {cs : List Value} (hu : Try.prog.underlying t = some (.slice e)) (he : Try.prog.underlying e = some .string) (hm : Try.prog.cellsOf e = 1) (hb : 1 ≤ Try.prog.bytesOf e) (h : Rdd Try.prog w t cs) :
    ∃ s : Sl ByteArray, cs = [s.v] ∧ RdStr s (whole w) := by
  obtain ⟨A, len, cap, rows, e0, hl, hrow, hrd⟩ := Rdd.slice hu hm hb h
  obtain ⟨xs, rfl, hx⟩ := rows_of (c := fun x : ByteArray => [Value.string x]) (I := fun x => True) (fun r hr => by
    obtain ⟨n, h1, _⟩ := Rdd.string he (hrow r hr).2; exact ⟨n, h1, trivial⟩)
  rw [flat_one] at hrd
  rw [List.length_map] at hl
  subst hl
  exact ⟨⟨A, cap, xs⟩, e0, hrd⟩
theorem cells_9 : Try.prog.cellsOf 9 = 1 := by kernel_rfl
theorem bytes_9 : 1 ≤ Try.prog.bytesOf 9 := of_decide_eq_true (by kernel_rfl)
theorem cells_22 : Try.prog.cellsOf 22 = 1 := by kernel_rfl
theorem cells_25 : Try.prog.cellsOf 25 = 1 := by kernel_rfl
theorem cells_26 : Try.prog.cellsOf 26 = 1 := by kernel_rfl
theorem cells_27 : Try.prog.cellsOf 27 = 1 := by kernel_rfl
theorem cells_33 : Try.prog.cellsOf 33 = 1 := by kernel_rfl
theorem cells_35 : Try.prog.cellsOf 35 = 6 := by kernel_rfl
theorem cells_48 : Try.prog.cellsOf 48 = 2 := by kernel_rfl
theorem bytes_48 : 1 ≤ Try.prog.bytesOf 48 := of_decide_eq_true (by kernel_rfl)
theorem cells_49 : Try.prog.cellsOf 49 = 1 := by kernel_rfl
theorem bytes_49 : 1 ≤ Try.prog.bytesOf 49 := of_decide_eq_true (by kernel_rfl)
theorem cells_63 : Try.prog.cellsOf 63 = 2 := by kernel_rfl
theorem bytes_63 : 1 ≤ Try.prog.bytesOf 63 := of_decide_eq_true (by kernel_rfl)
theorem Rdd.acts {w : World} {cs : List Value} (h : Rdd Try.prog w 42 cs) : ∃ s : Sl (Int × Int), cs = [s.v] ∧ RdActs s (whole w) := by
  obtain ⟨A, len, cap, rows, e0, hl, hrow, hrd⟩ := Rdd.slice Try.underlying42 cells_48 bytes_48 h
  obtain ⟨xs, rfl, hx⟩ := rows_of (c := fun x : Int × Int => [Value.int .i64 x.1, Value.int .i64 x.2]) (I := fun x => True) (fun r hr => by
    obtain ⟨h1, h2⟩ := hrow r hr
    obtain ⟨_, h3⟩ := Rdd.struct Try.underlying48 h2
    match r, h1 with
    | [c0, c1], _ =>
      have f0 := Rdd.cut [c0] (h3 0 _ rfl) cells_3 rfl
      have f1 := Rdd.cut [c1] (h3 1 _ rfl) cells_3 rfl
      obtain ⟨x, q0, _⟩ := Rdd.int Try.underlying3 f0
      obtain ⟨y, q1, _⟩ := Rdd.int Try.underlying3 f1
      injection q0 with q0
      injection q1 with q1
      exact ⟨(x, y), by rw [q0, q1], trivial⟩)
  rw [List.length_map] at hl
  subst hl
  exact ⟨⟨A, cap, xs⟩, e0, by rw [← List.flatMap_def] at hrd; exact hrd⟩
theorem Rdd.files {w : World} {cs : List Value} (h : Rdd Try.prog w 33 cs) : ∃ s : Sl FileG, cs = [s.v] ∧ RdFiles s (whole w) := by
  obtain ⟨A, len, cap, rows, e0, hl, hrow, hrd⟩ := Rdd.slice Try.underlying33 cells_63 bytes_63 h
  obtain ⟨xs, rfl, hx⟩ := rows_of (c := FileG.cells) (I := fun x => RdB x.data (whole w)) (fun r hr => by
    obtain ⟨h1, h2⟩ := hrow r hr
    obtain ⟨_, h3⟩ := Rdd.struct Try.underlying63 h2
    match r, h1 with
    | [c0, c1], _ =>
      have f0 := Rdd.cut [c0] (h3 0 _ rfl) cells_9 rfl
      have f1 := Rdd.cut [c1] (h3 1 _ rfl) cells_26 rfl
      obtain ⟨x, q0, _⟩ := Rdd.string Try.underlying9 f0
      obtain ⟨y, q1, q2⟩ := Rdd.u8s Try.underlying26 Try.underlying5 cells_5 bytes_5 f1
      injection q0 with q0
      injection q1 with q1
      exact ⟨⟨x, y⟩, by rw [q0, q1]; rfl, q2⟩)
  rw [List.length_map] at hl
  subst hl
  exact ⟨⟨A, cap, xs⟩, e0, by rw [← List.flatMap_def] at hrd; exact hrd, hx⟩
theorem Rdd.feed {w : World} {cs : List Value} (h : Rdd Try.prog w 35 cs) : ∃ f : FeedG, cs = f.cells ∧ RdFeed f (whole w) := by
  obtain ⟨h1, h3⟩ := Rdd.struct Try.underlying35 h
  rw [cells_35] at h1
  match cs, h1 with
  | [c0, c1, c2, c3, c4, c5], _ =>
    have f0 := Rdd.cut [c0] (h3 0 _ rfl) cells_25 rfl
    have f1 := Rdd.cut [c1] (h3 1 _ rfl) cells_26 rfl
    have f2 := Rdd.cut [c2] (h3 2 _ rfl) cells_22 rfl
    have f3 := Rdd.cut [c3] (h3 3 _ rfl) cells_26 rfl
    have f4 := Rdd.cut [c4] (h3 4 _ rfl) cells_27 rfl
    have f5 := Rdd.cut [c5] (h3 5 _ rfl) cells_33 rfl
    obtain ⟨x0, q0, r0⟩ := Rdd.strs Try.underlying25 Try.underlying9 cells_9 bytes_9 f0
    obtain ⟨x1, q1, r1⟩ := Rdd.u8s Try.underlying26 Try.underlying5 cells_5 bytes_5 f1
    obtain ⟨x2, q2, r2, _⟩ := Rdd.ints Try.underlying22 Try.underlying3 cells_3 bytes_3 f2
    obtain ⟨x3, q3, r3⟩ := Rdd.u8s Try.underlying26 Try.underlying5 cells_5 bytes_5 f3
    obtain ⟨x4, q4, r4, _⟩ := Rdd.ints Try.underlying27 Try.underlying49 cells_49 bytes_49 f4
    obtain ⟨x5, q5, r5⟩ := Rdd.files f5
    injection q0 with q0
    injection q1 with q1
    injection q2 with q2
    injection q3 with q3
    injection q4 with q4
    injection q5 with q5
    exact ⟨⟨x0, x1, x2, x3, x4, x5⟩, by rw [q0, q1, q2, q3, q4, q5]; rfl, ⟨r0, r1, r2, r3, r4, r5⟩⟩
theorem w5 (W : World) {b : Nat} (v0 v1 : Value) (o0 : Value.okWide Try.prog W .any b 35 v0) (o1 : Value.okWide Try.prog W .any b 42 v1) (q0 : Rdd Try.prog W 35 v0.cells.toList) (q1 : Rdd Try.prog W 42 v1.cells.toList) :
    Calls Try.prog 5 #[v0, v1] W fun e w' => e = .returned (.bool true) ∧ Below W.heap.size W w' := by
  obtain ⟨f, e0, r0⟩ := Rdd.feed q0
  obtain ⟨s1, e1, r1⟩ := Rdd.acts q1
  obtain rfl := val_struct (w := W) Try.underlying35 o0 e0
  obtain rfl := val_slice (w := W) Try.underlying42 o1 e1
  exact (f5_spec f s1).walk W ⟨r0, r1⟩
end Go.Proofs.Ytjjhihlmoecmlaa
