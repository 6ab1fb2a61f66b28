import Derived.Test.YtkjeidoplonkjaaZL12B
set_option linter.unusedVariables false
set_option linter.unusedSimpArgs false
set_option maxRecDepth 100000
namespace Go.Proofs.Ytkjeidoplonkjaa
open Go
theorem natsV_int (l : List Nat) : natsV .u32 l = (l.map fun n : Nat => (n : Int)).map (Value.int .u32) := by
  rw [natsV, List.map_map]; rfl
theorem nats_dec (a b : List Nat) : decide ((a.map fun n : Nat => (n : Int)) = b.map fun n : Nat => (n : Int)) = decide (a = b) := by
  rw [Bool.eq_iff_iff, decide_eq_true_eq, decide_eq_true_eq]
  constructor
  · intro h
    have h2 := congrArg (List.map Int.toNat) h
    rw [List.map_map, List.map_map] at h2
    have e : (Int.toNat ∘ fun n : Nat => (n : Int)) = id := by funext n; simp
    rwa [e, List.map_id, List.map_id] at h2
  · intro h; rw [h]
theorem x32_guard : Try.prog.eqGuardType Try.prog.depth 30 = false := by kernel_rfl
theorem x32_info : (Try.prog.info? 25).isSome = true := by kernel_rfl
theorem x32_one : Try.prog.cellsOf 25 = 1 := by kernel_rfl
theorem x32_eqd (d : Nat) {a b : List Nat} (ha : a.length = 32) (hb : b.length = 32) (w : World) : (Op.equalIn (d + 2) 30 (.agg (natsV .u32 a).toArray) (.agg (natsV .u32 b).toArray)).run Try.prog w = .ok (decide (a = b)) w := by
  rw [natsV_int, natsV_int, equal_arr Try.underlying30 x32_info x32_one Try.isAgg25 Try.underlying25 (by rw [List.length_map]; exact ha) (by rw [List.length_map]; exact hb) w, nats_dec]
theorem x32_eq {a b : List Nat} (ha : a.length = 32) (hb : b.length = 32) (w : World) : (Op.equalIn 10000 30 (.agg (natsV .u32 a).toArray) (.agg (natsV .u32 b).toArray)).run Try.prog w = .ok (decide (a = b)) w := x32_eqd 9998 ha hb w
def stEq (a b : StP) : Bool := decide (a.x = b.x) && (((a.pc : Int) == (b.pc : Int)) && ((a.ret == b.ret) && true))
theorem StP.cellsX {s : StP} {b : Nat} {T : TypeId} (h : s.x.length = 32) : ∀ k : Hp, Pt b (.cells s.cells.toArray T) k → Cells k ⟨b, 0, none⟩ (natsV .u32 s.x) := fun k hk j v hj => by
  have hk : k b = some (.cells s.cells.toArray T) := hk
  have hl : j < (natsV .u32 s.x).length := (List.getElem?_eq_some_iff.1 hj).1
  rw [add_mk, cellH]
  simp only [hk]
  have e : s.cells.toArray[0 + j]? = some v := by
    rw [Nat.zero_add, List.getElem?_toArray, StP.cells, List.getElem?_append_left hl]
    exact hj
  have e' : s.cells[j]? = some v := by simpa using e
  simp [e']
theorem stores_no {op : Nat} (h : ¬ (16 ≤ op ∧ op ≤ 18)) : ¬ storesP op = true := by rw [storesP, decide_eq_true_eq]; exact h
theorem writes_no {op : Nat} (h : ¬ (1 ≤ op ∧ op ≤ 4 ∨ 11 ≤ op ∧ op ≤ 15 ∨ 19 ≤ op ∧ op ≤ 45)) : ¬ writesP op = true := by rw [writesP, decide_eq_true_eq]; exact h
end Go.Proofs.Ytkjeidoplonkjaa
