import Derived.Test.YtkjeidoplonkjaaZRvE
import Derived.Test.YtkjeidoplonkjaaZEngV2
set_option linter.unusedVariables false
set_option linter.unusedSimpArgs false
set_option maxRecDepth 100000
namespace Go.Proofs.Ytkjeidoplonkjaa
open Go
def insEq (a b : InsP) : Bool := ((a.op : Int) == (b.op : Int)) && (((a.rd : Int) == (b.rd : Int)) && (((a.r1 : Int) == (b.r1 : Int)) && (((a.r2 : Int) == (b.r2 : Int)) && ((a.imm == b.imm) && true))))
def evEq (a b : EvP) : Bool := ((a.kind : Int) == (b.kind : Int)) && (((a.addr : Int) == (b.addr : Int)) && ((a.why == b.why) && true))
theorem evEq_iff (a b : EvP) : evEq a b = true ↔ a = b := by
  obtain ⟨a1, a2, a3⟩ := a
  obtain ⟨b1, b2, b3⟩ := b
  simp [evEq]
  omega
theorem ins_guard : Try.prog.eqGuardType Try.prog.depth 28 = false := by kernel_rfl
theorem ins_stood : Try.prog.stoodInHeld 28 = false := by kernel_rfl
theorem ins_fields : Try.prog.underlying 28 = some (.struct (Try.prog.fieldsOf 28)) := by kernel_rfl
theorem ev_guard : Try.prog.eqGuardType Try.prog.depth 35 = false := by kernel_rfl
theorem ev_stood : Try.prog.stoodInHeld 35 = false := by kernel_rfl
theorem ev_fields : Try.prog.underlying 35 = some (.struct (Try.prog.fieldsOf 35)) := by kernel_rfl
theorem ins_list : (Try.prog.fieldsOf 28).toList = [Field.mk "Op" 3 0 false "" "" 0, Field.mk "Rd" 3 1 false "" "" 8, Field.mk "Rs1" 3 2 false "" "" 16, Field.mk "Rs2" 3 3 false "" "" 24, Field.mk "Imm" 21 4 false "" "" 32] := by kernel_rfl
theorem ev_list : (Try.prog.fieldsOf 35).toList = [Field.mk "Kind" 3 0 false "" "" 0, Field.mk "Addr" 25 1 false "" "" 8, Field.mk "Why" 33 2 false "" "" 16] := by kernel_rfl
theorem ins_eq (a b : InsP) (w : World) : (Op.eqFields 9999 a.cells.toArray b.cells.toArray (Try.prog.fieldsOf 28).toList).run Try.prog w = .ok (insEq a b) w := by
  rw [ins_list]
  exact eqFields_int (by decide) (part_int Try.isAgg3 rfl) (part_int Try.isAgg3 rfl) Try.underlying3 (eqFields_int (by decide) (part_int Try.isAgg3 rfl) (part_int Try.isAgg3 rfl) Try.underlying3 (eqFields_int (by decide) (part_int Try.isAgg3 rfl) (part_int Try.isAgg3 rfl) Try.underlying3 (eqFields_int (by decide) (part_int Try.isAgg3 rfl) (part_int Try.isAgg3 rfl) Try.underlying3 (eqFields_int (by decide) (part_int Try.isAgg21 rfl) (part_int Try.isAgg21 rfl) Try.underlying21 rfl))))
theorem ev_eq (a b : EvP) (w : World) : (Op.eqFields 9999 a.cells.toArray b.cells.toArray (Try.prog.fieldsOf 35).toList).run Try.prog w = .ok (evEq a b) w := by
  rw [ev_list]
  exact eqFields_int (by decide) (part_int Try.isAgg3 rfl) (part_int Try.isAgg3 rfl) Try.underlying3 (eqFields_int (by decide) (part_int Try.isAgg25 rfl) (part_int Try.isAgg25 rfl) Try.underlying25 (eqFields_int (by decide) (part_int Try.isAgg33 rfl) (part_int Try.isAgg33 rfl) Try.underlying33 rfl))
end Go.Proofs.Ytkjeidoplonkjaa
