import Derived.Test.YtkjeidoplonkjaaZL12B
set_option linter.unusedVariables false
set_option linter.unusedSimpArgs false
set_option maxRecDepth 100000
namespace Go.Proofs.Ytkjeidoplonkjaa
open Go
theorem part_agg {P : Program} {e : TypeId} {m : Nat} {xs : Array Value} {off : Nat} {w : World} (hA : ∀ w, (isAgg e).run P w = .ok true w) (hz : ∀ w, (sizeOf e).run P w = .ok m w) : (part e xs off).run P w = .ok (.agg (xs.extract off (off + m))) w := by
  simp only [part, Sem.run_bind, hA, Result.andThen_ok, if_true, hz, Sem.run_pure]
theorem natsV_int (l : List Nat) : natsV .u32 l = (l.map fun n : Nat => (n : Int)).map (Value.int .u32) := by
  rw [natsV, List.map_map]; rfl
theorem nats_dec (a b : List Nat) : decide ((a.map fun n : Nat => (n : Int)) = b.map fun n : Nat => (n : Int)) = decide (a = b) := by
  rw [Bool.eq_iff_iff, decide_eq_true_eq, decide_eq_true_eq]
  constructor
  · intro h
    have h2 := congrArg (List.map Int.toNat) h
    rw [List.map_map, List.map_map] at h2
    have e : (Int.toNat ∘ fun n : Nat => (n : Int)) = id := by funext n; simp
    rwa [e, List.map_id, List.map_id] at h2
  · intro h; rw [h]
theorem x32_info : (Try.prog.info? 25).isSome = true := by kernel_rfl
theorem x32_one : Try.prog.cellsOf 25 = 1 := by kernel_rfl
theorem x32_eqd (d : Nat) {a b : List Nat} (ha : a.length = 32) (hb : b.length = 32) (w : World) : (Op.equalIn (d + 2) 30 (.agg (natsV .u32 a).toArray) (.agg (natsV .u32 b).toArray)).run Try.prog w = .ok (decide (a = b)) w := by
  rw [natsV_int, natsV_int, equal_arr Try.underlying30 x32_info x32_one Try.isAgg25 Try.underlying25 (by rw [List.length_map]; exact ha) (by rw [List.length_map]; exact hb) w, nats_dec]
def stEq (a b : StP) : Bool := decide (a.x = b.x) && (((a.pc : Int) == (b.pc : Int)) && ((a.ret == b.ret) && true))
theorem stEq_iff (a b : StP) : stEq a b = true ↔ a = b := by
  obtain ⟨a1, a2, a3⟩ := a
  obtain ⟨b1, b2, b3⟩ := b
  simp [stEq]
  intro _
  omega
theorem st_guard : Try.prog.eqGuardType Try.prog.depth 32 = false := by kernel_rfl
theorem st_stood : Try.prog.stoodInHeld 32 = false := by kernel_rfl
theorem st_fields : Try.prog.underlying 32 = some (.struct (Try.prog.fieldsOf 32)) := by kernel_rfl
theorem st_list : (Try.prog.fieldsOf 32).toList = [Field.mk "X" 30 0 false "" "" 0, Field.mk "PC" 25 32 false "" "" 128, Field.mk "Retired" 2 33 false "" "" 136] := by kernel_rfl
theorem st_cut {s : StP} (h : s.x.length = 32) : s.cells.toArray.extract 0 (0 + 32) = (natsV .u32 s.x).toArray := by
  rw [List.extract_toArray]
  congr 1
  simp [StP.cells, natsV, List.extract, h]
theorem st_eq (a b : StP) (ha : a.x.length = 32) (hb : b.x.length = 32) (w : World) : (Op.eqFields 9999 a.cells.toArray b.cells.toArray (Try.prog.fieldsOf 32).toList).run Try.prog w = .ok (stEq a b) w := by
  rw [st_list]
  refine eqFields_any (by decide) (part_agg (m := 32) Try.isAgg30 Try.sizeOf30) (part_agg (m := 32) Try.isAgg30 Try.sizeOf30) ?_ (eqFields_int (by decide) (part_int Try.isAgg25 (StP.cPc' ha)) (part_int Try.isAgg25 (StP.cPc' hb)) Try.underlying25 (eqFields_int (by decide) (part_int Try.isAgg2 (StP.cRet' ha)) (part_int Try.isAgg2 (StP.cRet' hb)) Try.underlying2 rfl))
  show (Op.equalIn 9999 30 (.agg (a.cells.toArray.extract 0 (0 + 32))) (.agg (b.cells.toArray.extract 0 (0 + 32)))).run Try.prog w = _
  rw [st_cut ha, st_cut hb]
  exact x32_eqd 9997 ha hb w
end Go.Proofs.Ytkjeidoplonkjaa
