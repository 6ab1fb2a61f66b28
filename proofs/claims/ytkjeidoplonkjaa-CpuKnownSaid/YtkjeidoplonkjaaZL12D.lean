import Derived.Test.YtkjeidoplonkjaaZCpuS
set_option linter.unusedVariables false
set_option linter.unusedSimpArgs false
set_option maxRecDepth 100000
namespace Go.Proofs.Ytkjeidoplonkjaa
open Go
def kI0 : InsP := ⟨4, 1, 1, 0, 3⟩
def kI2 : InsP := ⟨13, 2, 1, 0, 0⟩
def kI3 : InsP := ⟨18, 0, 3, 1, 0⟩
def kI6 : InsP := ⟨19, 0, 0, 0, 7⟩
def kS (z a pc : Nat) (r : Int) : StP := ⟨z :: a :: 0 :: 65792 :: List.replicate 28 0, pc, r⟩
theorem kS_ok {z a pc : Nat} {r : Int} (hz : z < 4294967296) (ha : a < 4294967296) (hp : pc < 4294967296) (hr : 0 ≤ r ∧ r ≤ 1) : StOk (kS z a pc r) := by
  refine ⟨rfl, fun y hy => ?_, hp, (show -9223372036854775808 ≤ r ∧ r ≤ 4611686018427387904 by omega)⟩
  simp only [kS, List.mem_cons] at hy
  rcases hy with h | h | h | h | h
  · rw [h]; exact hz
  · rw [h]; exact ha
  · rw [h]; decide
  · rw [h]; decide
  · rw [List.eq_of_mem_replicate h]; decide
theorem kE0 : encP kI0 = (3178727, 0) := by kernel_rfl
theorem kE2 : encP kI2 = (41219, 0) := by kernel_rfl
theorem kE3 : encP kI3 = (1155107, 0) := by kernel_rfl
theorem kE6 : encP kI6 = (7340051, 0) := by kernel_rfl
def kM : MemG := madeD [3178727, 0, 41219, 1155107, 115, 1048691, 7340051] []
theorem kT0 : stepP kM (kS 0 4097 4096 0) = (kS 0 4100 4100 1, ⟨0, 0, 0⟩, kM) := by kernel_rfl
theorem kT1 : stepP kM (kS 0 4098 4096 0) = (kS 0 4100 4100 1, ⟨0, 0, 0⟩, kM) := by kernel_rfl
theorem kT2 : stepP kM (kS 0 4099 4096 0) = (kS 0 4099 4096 0, ⟨7, 4102, 0⟩, kM) := by kernel_rfl
theorem kT3 : stepP kM (kS 0 4098 4100 0) = (kS 0 4098 4100 0, ⟨2, 4100, 0⟩, kM) := by kernel_rfl
theorem kT4 : stepP kM (kS 0 4098 4104 0) = (kS 0 4098 4104 0, ⟨3, 4098, 3⟩, kM) := by kernel_rfl
theorem kT5 : stepP kM (kS 0 65540 4108 0) = (kS 0 65540 4108 0, ⟨4, 65792, 2⟩, kM) := by kernel_rfl
theorem kT6 : stepP kM (kS 0 65540 4112 0) = (kS 0 65540 4112 0, ⟨5, 4112, 0⟩, kM) := by kernel_rfl
theorem kT7 : stepP kM (kS 0 65540 4116 0) = (kS 0 65540 4116 0, ⟨6, 4116, 0⟩, kM) := by kernel_rfl
theorem kT8 : stepP kM (kS 9 65540 4120 0) = (kS 0 65540 4124 1, ⟨0, 0, 0⟩, kM) := by kernel_rfl
theorem kT9 : stepP kM (kS 9 65540 65536 0) = (kS 9 65540 65536 0, ⟨1, 65536, 2⟩, kM) := by kernel_rfl
theorem kT10 : stepP kM (kS 9 65540 4097 0) = (kS 9 65540 4097 0, ⟨1, 4097, 3⟩, kM) := by kernel_rfl
theorem cpuKnown_spec : Spec Try.prog 3 #[] (fun _ => True) [] (fun ρ ρ' v L => v = .bool true ∧ L = []) := by
  refine Spec.of 201 Try.func3 rfl Try.ntmps3 [] rfl rfl ?_
  intro cx ρ hr' h0
  refine Cd.seq fun K1 hK1 => ?_
  refine Cd.plain [(0, false)] rfl rfl ?_
  refine Jp.y 0 rfl (want_all rfl) rfl rfl Kp.true (Y.assign rfl rfl) ?_
  refine Jp.done hK1 ?_
  refine Cd.seq fun K2 hK2 => ?_
  refine Cd.seq fun K3 hK3 => ?_
  refine Cd.plain [(0, false), (1, false)] rfl rfl ?_
  refine Jp.call [] [] awake12_spec 25 rfl (want_all rfl) rfl rfl (Runs.fn rfl Try.call12 rfl) (by decide) (by decide) rfl trivial ?_
  rintro v1 ρ1 L1 ⟨rfl, rfl⟩
  refine ⟨rfl, fun hle1 => ⟨Kp.true, ?_⟩⟩
  refine Jp.y 26 rfl (want_all rfl) rfl rfl Kp.true (Y.not rfl rfl) ?_
  refine Jp.done hK3 ?_
  refine Cd.cond rfl (fun g26 => ?_) (fun g26 => ?_)
  · skip
    exact absurd g26 (by simp)
  try simp only [decide_eq_false_iff_not, decide_eq_true_eq, Int.not_lt, Int.not_le, Bool.not_eq_false, Bool.not_eq_true, Bool.not_true, Bool.not_false, Bool.not_eq_true', Bool.not_eq_false', beq_eq_false_iff_ne, ne_eq, beq_iff_eq, bne_iff_ne, bne_eq_false_iff_eq, Classical.not_not] at g26
  refine Cd.skip hK2 ?_
  refine Cd.seq fun K4 hK4 => ?_
  refine Cd.plain [(0, false), (1, false), (2, false), (3, false), (4, false), (5, false), (6, false), (7, false), (8, false), (9, false), (10, false)] rfl rfl ?_
  refine Jp.y 27 rfl (want_all rfl) rfl rfl Kp.true (Y.struct [(0, _), (1, _), (2, _), (4, _)] [_, _, _, _, _] rfl rfl places28 Try.zeroValue28 rfl) ?_
  refine Jp.call [] [] (word12_spec kI0 ⟨by decide, by decide, by decide, by decide, by decide⟩ (by decide)) 28 rfl (want_all rfl) rfl rfl (Runs.fn rfl Try.call14 rfl) (by decide) (by decide) rfl trivial ?_
  rintro v10 ρ10 L10 ⟨rfl, rfl, rfl⟩
  refine ⟨rfl, fun hle10 => ⟨Kp.true, ?_⟩⟩
  rw [kE0]
  refine Jp.y 29 rfl (want_all rfl) rfl rfl Kp.true (Y.struct [(0, _), (1, _), (2, _)] [_, _, _, _, _] rfl rfl places28 Try.zeroValue28 rfl) ?_
  refine Jp.call [] [] (word12_spec kI2 ⟨by decide, by decide, by decide, by decide, by decide⟩ (by decide)) 30 rfl (want_all rfl) rfl rfl (Runs.fn rfl Try.call14 rfl) (by decide) (by decide) rfl trivial ?_
  rintro v11 ρ11 L11 ⟨rfl, rfl, rfl⟩
  refine ⟨rfl, fun hle11 => ⟨Kp.true, ?_⟩⟩
  rw [kE2]
  refine Jp.y 31 rfl (want_all rfl) rfl rfl Kp.true (Y.struct [(0, _), (2, _), (3, _)] [_, _, _, _, _] rfl rfl places28 Try.zeroValue28 rfl) ?_
  refine Jp.call [] [] (word12_spec kI3 ⟨by decide, by decide, by decide, by decide, by decide⟩ (by decide)) 32 rfl (want_all rfl) rfl rfl (Runs.fn rfl Try.call14 rfl) (by decide) (by decide) rfl trivial ?_
  rintro v12 ρ12 L12 ⟨rfl, rfl, rfl⟩
  refine ⟨rfl, fun hle12 => ⟨Kp.true, ?_⟩⟩
  rw [kE3]
  refine Jp.y 33 rfl (want_all rfl) rfl rfl Kp.true (Y.struct [(0, _), (1, _), (4, _)] [_, _, _, _, _] rfl rfl places28 Try.zeroValue28 rfl) ?_
  refine Jp.call [] [] (word12_spec kI6 ⟨by decide, by decide, by decide, by decide, by decide⟩ (by decide)) 34 rfl (want_all rfl) rfl rfl (Runs.fn rfl Try.call14 rfl) (by decide) (by decide) rfl trivial ?_
  rintro v13 ρ13 L13 ⟨rfl, rfl, rfl⟩
  refine ⟨rfl, fun hle13 => ⟨Kp.true, ?_⟩⟩
  rw [kE6]
  refine Jp.lit 35 50 [(0, _), (1, _), (2, _), (3, _), (4, _), (5, _), (6, _)] [_, _, _, _, _, _, _] rfl (want_all rfl) rfl rfl rfl rfl Try.underlying29 Try.sizeOf25 Try.zeroValue25 rfl rfl rfl rfl rfl fun b50 => ⟨Kp.true, ?_⟩
  refine Jp.freeze (i := 50) rfl (OwnS.up _ _ _ _ _ _) fun ρ7 hle7 hA7 => ?_
  refine Jp.call [] [0] (made12_spec (some ⟨b50, 0, none⟩) 7 [3178727, 0, 41219, 1155107, 115, 1048691, 7340051] none 0 [] (by intro y hy; simp at hy; rcases hy with h | h | h | h | h | h | h <;> exact ⟨y.toNat, by omega, by omega⟩)) 36 rfl (want_all rfl) rfl rfl (Runs.fn rfl Try.call13 rfl) (by decide) (by decide) rfl ⟨hA7.rd, RdS.nil 1 _⟩ ?_
  rintro v20 ρ20 L20 ⟨bm, rfl, rfl⟩
  refine ⟨rfl, fun hle20 => ⟨Kp.true, ?_⟩⟩
  refine Jp.imp (j := 0) rfl (fun h hh => (show MemO bm kM h from hh)) ?_
  refine Jp.y 1 rfl (want_all rfl) rfl rfl Kp.true (Y.assign rfl rfl) ?_
  refine Jp.done hK4 ?_
  refine Cd.seq fun K5 hK5 => ?_
  refine Cd.plain [(0, false), (1, false), (2, false)] rfl rfl ?_
  refine Jp.y 37 rfl (want_all rfl) rfl rfl Kp.true (Y.struct [(1, _)] [_, _, _, _, _, _, _, _, _, _, _, _, _, _, _, _, _, _, _, _, _, _, _, _, _, _, _, _, _, _, _, _, _, _] rfl rfl places32 Try.zeroValue32 rfl) ?_
  refine Jp.alloc 2 2 rfl (want_all rfl) rfl rfl rfl Try.zeroValue32 fun b2 => ⟨Kp.true, ?_⟩
  first | refine Jp.storeAll 2 rfl (want_all rfl) rfl rfl Try.sizeOf32 rfl rfl (by first | rfl | assumption) (by first | rfl | assumption) rfl rfl (fun k _ _ => noFr0 k) Kp.true ?_
  refine Jp.done hK5 ?_
  refine Cd.seq fun K6 hK6 => ?_
  refine Cd.plain [(0, false), (1, false), (2, false), (3, false), (4, false), (5, false)] rfl rfl ?_
  refine Jp.imp (j := 2) rfl (fun h hh => (show Pt b2 (.cells (StP.cells ⟨List.replicate 32 0, 4096, 0⟩).toArray 32) h from hh)) ?_
  refine Jp.y 38 rfl (want_all rfl) rfl rfl Kp.true (by first | exact Y.fieldAddrP rfl rfl Try.underlying32 rfl Try.sizeOf30 (by decide) (show _ + 0 = _ from rfl) | exact Y.fieldAddr rfl rfl Try.underlying32 rfl Try.sizeOf30 (by decide)) ?_
  refine Jp.y 39 rfl (want_all rfl) rfl rfl Kp.true (Y.indexArrP rfl rfl rfl Try.underlying30 Try.sizeOf25 (by first | decide | omega) (by first | decide | omega) rfl) ?_
  refine Jp.storeC 2 (Pt b2 (.cells (StP.cells ⟨0 :: 4097 :: List.replicate 30 0, 4096, 0⟩).toArray 32)) rfl (want_all rfl) rfl rfl Try.sizeOf25 rfl rfl rfl rfl rfl (SetC.st rfl (by decide) 4097) Kp.true ?_
  refine Jp.y 40 rfl (want_all rfl) rfl rfl Kp.true (by first | exact Y.fieldAddrP rfl rfl Try.underlying32 rfl Try.sizeOf30 (by decide) (show _ + 0 = _ from rfl) | exact Y.fieldAddr rfl rfl Try.underlying32 rfl Try.sizeOf30 (by decide)) ?_
  refine Jp.y 41 rfl (want_all rfl) rfl rfl Kp.true (Y.indexArrP rfl rfl rfl Try.underlying30 Try.sizeOf25 (by first | decide | omega) (by first | decide | omega) rfl) ?_
  refine Jp.storeC 2 (Pt b2 (.cells (kS 0 4097 4096 0).cells.toArray 32)) rfl (want_all rfl) rfl rfl Try.sizeOf25 rfl rfl rfl rfl rfl (SetC.st rfl (by decide) 65792) Kp.true ?_
  have S0 := step_spec bm kM (kS 0 4097 4096 0) (kS_ok (by decide) (by decide) (by decide) (by decide))
  rw [kT0] at S0
  have hl0 : (kS 0 4097 4096 0).cells.length = 34 := rfl
  refine Jp.done hK6 ?_
  refine Cd.seq fun K7 hK7 => ?_
  refine Cd.plain [(0, false), (1, false), (2, false), (3, false), (4, false), (5, false), (6, false), (7, false), (8, false), (9, false)] rfl rfl ?_
  refine Jp.y 43 rfl (want_all rfl) rfl rfl Kp.true (Y.move rfl rfl) ?_
  refine Jp.y 44 rfl (want_all rfl) rfl rfl Kp.true (by first | exact Y.loadAggO 2 rfl Try.isAgg32 Try.sizeOf32 rfl rfl (by first | rfl | assumption)) ?_
  refine Jp.call [0] [0] S0 45 rfl (want_all rfl) rfl rfl (Runs.fn rfl Try.call15 rfl) (by decide) (by decide) rfl trivial ?_
  rintro v30 ρ30 L30 ⟨rfl, rfl, rfl⟩
  refine ⟨rfl, fun hle30 => ⟨Kp.true, ?_⟩⟩
  refine Jp.y 42 rfl (want_all rfl) rfl rfl Kp.true (Y.move rfl rfl) ?_
  refine Jp.y 46 rfl (want_all rfl) rfl rfl Kp.true (Y.extract rfl rfl rfl) ?_
  refine Jp.y 47 rfl (want_all rfl) rfl rfl Kp.true (Y.extract rfl rfl rfl) ?_
  refine Jp.alloc 3 3 rfl (want_all rfl) rfl rfl rfl Try.zeroValue32 fun b3 => ⟨Kp.true, ?_⟩
  refine Jp.alloc 4 4 rfl (want_all rfl) rfl rfl rfl Try.zeroValue35 fun b4 => ⟨Kp.true, ?_⟩
  first | refine Jp.storeAll 3 rfl (want_all rfl) rfl rfl Try.sizeOf32 rfl rfl (by first | rfl | assumption) (by first | rfl | assumption) rfl rfl (fun k _ _ => noFr0 k) Kp.true ?_ | refine Jp.storeAll 4 rfl (want_all rfl) rfl rfl Try.sizeOf32 rfl rfl (by first | rfl | assumption) (by first | rfl | assumption) rfl rfl (fun k _ _ => noFr0 k) Kp.true ?_
  first | refine Jp.storeAll 3 rfl (want_all rfl) rfl rfl Try.sizeOf35 rfl rfl (by first | rfl | assumption) (by first | rfl | assumption) rfl rfl (fun k _ _ => noFr0 k) Kp.true ?_ | refine Jp.storeAll 4 rfl (want_all rfl) rfl rfl Try.sizeOf35 rfl rfl (by first | rfl | assumption) (by first | rfl | assumption) rfl rfl (fun k _ _ => noFr0 k) Kp.true ?_
  refine Jp.done hK7 ?_
  refine Cd.seq fun K8 hK8 => ?_
  refine Cd.plain [(0, false), (1, false), (2, false)] rfl rfl ?_
  refine Jp.y 48 rfl (want_all rfl) rfl rfl Kp.true (by first | exact Y.fieldAddrP rfl rfl Try.underlying32 rfl Try.sizeOf30 (by decide) (show _ + 0 = _ from rfl) | exact Y.fieldAddr rfl rfl Try.underlying32 rfl Try.sizeOf30 (by decide)) ?_
  refine Jp.y 49 rfl (want_all rfl) rfl rfl Kp.true (Y.indexArrP rfl rfl rfl Try.underlying30 Try.sizeOf25 (by first | decide | omega) (by first | decide | omega) rfl) ?_
  refine Jp.storeC 2 (Pt b2 (.cells (kS 0 4098 4096 0).cells.toArray 32)) rfl (want_all rfl) rfl rfl Try.sizeOf25 rfl rfl rfl rfl rfl (SetC.st rfl (by decide) 4098) Kp.true ?_
  have S1 := step_spec bm kM (kS 0 4098 4096 0) (kS_ok (by decide) (by decide) (by decide) (by decide))
  rw [kT1] at S1
  have hl1 : (kS 0 4098 4096 0).cells.length = 34 := rfl
  refine Jp.done hK8 ?_
  refine Cd.seq fun K9 hK9 => ?_
  refine Cd.plain [(0, false), (1, false), (2, false), (3, false), (4, false), (5, false), (6, false), (7, false), (8, false), (9, false)] rfl rfl ?_
  refine Jp.y 51 rfl (want_all rfl) rfl rfl Kp.true (Y.move rfl rfl) ?_
  refine Jp.y 52 rfl (want_all rfl) rfl rfl Kp.true (by first | exact Y.loadAggO 2 rfl Try.isAgg32 Try.sizeOf32 rfl rfl (by first | rfl | assumption)) ?_
  refine Jp.call [0] [0] S1 53 rfl (want_all rfl) rfl rfl (Runs.fn rfl Try.call15 rfl) (by decide) (by decide) rfl trivial ?_
  rintro v31 ρ31 L31 ⟨rfl, rfl, rfl⟩
  refine ⟨rfl, fun hle31 => ⟨Kp.true, ?_⟩⟩
  refine Jp.y 50 rfl (want_all rfl) rfl rfl Kp.true (Y.move rfl rfl) ?_
  refine Jp.y 54 rfl (want_all rfl) rfl rfl Kp.true (Y.extract rfl rfl rfl) ?_
  refine Jp.y 55 rfl (want_all rfl) rfl rfl Kp.true (Y.extract rfl rfl rfl) ?_
  refine Jp.alloc 5 5 rfl (want_all rfl) rfl rfl rfl Try.zeroValue32 fun b5 => ⟨Kp.true, ?_⟩
  refine Jp.alloc 6 6 rfl (want_all rfl) rfl rfl rfl Try.zeroValue35 fun b6 => ⟨Kp.true, ?_⟩
  first | refine Jp.storeAll 5 rfl (want_all rfl) rfl rfl Try.sizeOf32 rfl rfl (by first | rfl | assumption) (by first | rfl | assumption) rfl rfl (fun k _ _ => noFr0 k) Kp.true ?_ | refine Jp.storeAll 6 rfl (want_all rfl) rfl rfl Try.sizeOf32 rfl rfl (by first | rfl | assumption) (by first | rfl | assumption) rfl rfl (fun k _ _ => noFr0 k) Kp.true ?_
  first | refine Jp.storeAll 5 rfl (want_all rfl) rfl rfl Try.sizeOf35 rfl rfl (by first | rfl | assumption) (by first | rfl | assumption) rfl rfl (fun k _ _ => noFr0 k) Kp.true ?_ | refine Jp.storeAll 6 rfl (want_all rfl) rfl rfl Try.sizeOf35 rfl rfl (by first | rfl | assumption) (by first | rfl | assumption) rfl rfl (fun k _ _ => noFr0 k) Kp.true ?_
  refine Jp.done hK9 ?_
  refine Cd.seq fun K10 hK10 => ?_
  refine Cd.plain [(0, false), (1, false), (2, false)] rfl rfl ?_
  refine Jp.y 56 rfl (want_all rfl) rfl rfl Kp.true (by first | exact Y.fieldAddrP rfl rfl Try.underlying32 rfl Try.sizeOf30 (by decide) (show _ + 0 = _ from rfl) | exact Y.fieldAddr rfl rfl Try.underlying32 rfl Try.sizeOf30 (by decide)) ?_
  refine Jp.y 57 rfl (want_all rfl) rfl rfl Kp.true (Y.indexArrP rfl rfl rfl Try.underlying30 Try.sizeOf25 (by first | decide | omega) (by first | decide | omega) rfl) ?_
  refine Jp.storeC 2 (Pt b2 (.cells (kS 0 4099 4096 0).cells.toArray 32)) rfl (want_all rfl) rfl rfl Try.sizeOf25 rfl rfl rfl rfl rfl (SetC.st rfl (by decide) 4099) Kp.true ?_
  have S2 := step_spec bm kM (kS 0 4099 4096 0) (kS_ok (by decide) (by decide) (by decide) (by decide))
  rw [kT2] at S2
  have hl2 : (kS 0 4099 4096 0).cells.length = 34 := rfl
  refine Jp.done hK10 ?_
  refine Cd.seq fun K11 hK11 => ?_
  refine Cd.plain [(0, false), (1, false), (2, false), (3, false), (4, false), (5, false), (6, false), (7, false), (8, false), (9, false)] rfl rfl ?_
  refine Jp.y 59 rfl (want_all rfl) rfl rfl Kp.true (Y.move rfl rfl) ?_
  refine Jp.y 60 rfl (want_all rfl) rfl rfl Kp.true (by first | exact Y.loadAggO 2 rfl Try.isAgg32 Try.sizeOf32 rfl rfl (by first | rfl | assumption)) ?_
  refine Jp.call [0] [0] S2 61 rfl (want_all rfl) rfl rfl (Runs.fn rfl Try.call15 rfl) (by decide) (by decide) rfl trivial ?_
  rintro v32 ρ32 L32 ⟨rfl, rfl, rfl⟩
  refine ⟨rfl, fun hle32 => ⟨Kp.true, ?_⟩⟩
  refine Jp.y 58 rfl (want_all rfl) rfl rfl Kp.true (Y.move rfl rfl) ?_
  refine Jp.y 62 rfl (want_all rfl) rfl rfl Kp.true (Y.extract rfl rfl rfl) ?_
  refine Jp.y 63 rfl (want_all rfl) rfl rfl Kp.true (Y.extract rfl rfl rfl) ?_
  refine Jp.alloc 7 7 rfl (want_all rfl) rfl rfl rfl Try.zeroValue32 fun b7 => ⟨Kp.true, ?_⟩
  refine Jp.alloc 8 8 rfl (want_all rfl) rfl rfl rfl Try.zeroValue35 fun b8 => ⟨Kp.true, ?_⟩
  first | refine Jp.storeAll 7 rfl (want_all rfl) rfl rfl Try.sizeOf32 rfl rfl (by first | rfl | assumption) (by first | rfl | assumption) rfl rfl (fun k _ _ => noFr0 k) Kp.true ?_ | refine Jp.storeAll 8 rfl (want_all rfl) rfl rfl Try.sizeOf32 rfl rfl (by first | rfl | assumption) (by first | rfl | assumption) rfl rfl (fun k _ _ => noFr0 k) Kp.true ?_
  first | refine Jp.storeAll 7 rfl (want_all rfl) rfl rfl Try.sizeOf35 rfl rfl (by first | rfl | assumption) (by first | rfl | assumption) rfl rfl (fun k _ _ => noFr0 k) Kp.true ?_ | refine Jp.storeAll 8 rfl (want_all rfl) rfl rfl Try.sizeOf35 rfl rfl (by first | rfl | assumption) (by first | rfl | assumption) rfl rfl (fun k _ _ => noFr0 k) Kp.true ?_
  refine Jp.done hK11 ?_
  refine Cd.seq fun K12 hK12 => ?_
  refine Cd.plain [(0, false), (1, false), (2, false)] rfl rfl ?_
  refine Jp.y 64 rfl (want_all rfl) rfl rfl Kp.true (by first | exact Y.fieldAddrP rfl rfl Try.underlying32 rfl Try.sizeOf30 (by decide) (show _ + 0 = _ from rfl) | exact Y.fieldAddr rfl rfl Try.underlying32 rfl Try.sizeOf30 (by decide)) ?_
  refine Jp.y 65 rfl (want_all rfl) rfl rfl Kp.true (Y.indexArrP rfl rfl rfl Try.underlying30 Try.sizeOf25 (by first | decide | omega) (by first | decide | omega) rfl) ?_
  refine Jp.storeC 2 (Pt b2 (.cells (kS 0 4098 4096 0).cells.toArray 32)) rfl (want_all rfl) rfl rfl Try.sizeOf25 rfl rfl rfl rfl rfl (SetC.st rfl (by decide) 4098) Kp.true ?_
  refine Jp.done hK12 ?_
  refine Cd.seq fun K13 hK13 => ?_
  refine Cd.plain [(0, false), (1, false)] rfl rfl ?_
  refine Jp.y 66 rfl (want_all rfl) rfl rfl Kp.true (by first | exact Y.fieldAddrP rfl rfl Try.underlying32 rfl Try.sizeOf25 (by decide) (show _ + 32 = _ from rfl) | exact Y.fieldAddr rfl rfl Try.underlying32 rfl Try.sizeOf25 (by decide)) ?_
  refine Jp.storeC 2 (Pt b2 (.cells (kS 0 4098 4100 0).cells.toArray 32)) rfl (want_all rfl) rfl rfl Try.sizeOf25 rfl rfl rfl rfl rfl (SetC.stPc rfl 4100) Kp.true ?_
  have S3 := step_spec bm kM (kS 0 4098 4100 0) (kS_ok (by decide) (by decide) (by decide) (by decide))
  rw [kT3] at S3
  have hl3 : (kS 0 4098 4100 0).cells.length = 34 := rfl
  refine Jp.done hK13 ?_
  refine Cd.seq fun K14 hK14 => ?_
  refine Cd.plain [(0, false), (1, false), (2, false), (3, false), (4, false), (5, false), (6, false), (7, false), (8, false), (9, false)] rfl rfl ?_
  refine Jp.y 68 rfl (want_all rfl) rfl rfl Kp.true (Y.move rfl rfl) ?_
  refine Jp.y 69 rfl (want_all rfl) rfl rfl Kp.true (by first | exact Y.loadAggO 2 rfl Try.isAgg32 Try.sizeOf32 rfl rfl (by first | rfl | assumption)) ?_
  refine Jp.call [0] [0] S3 70 rfl (want_all rfl) rfl rfl (Runs.fn rfl Try.call15 rfl) (by decide) (by decide) rfl trivial ?_
  rintro v33 ρ33 L33 ⟨rfl, rfl, rfl⟩
  refine ⟨rfl, fun hle33 => ⟨Kp.true, ?_⟩⟩
  refine Jp.y 67 rfl (want_all rfl) rfl rfl Kp.true (Y.move rfl rfl) ?_
  refine Jp.y 71 rfl (want_all rfl) rfl rfl Kp.true (Y.extract rfl rfl rfl) ?_
  refine Jp.y 72 rfl (want_all rfl) rfl rfl Kp.true (Y.extract rfl rfl rfl) ?_
  refine Jp.alloc 9 9 rfl (want_all rfl) rfl rfl rfl Try.zeroValue32 fun b9 => ⟨Kp.true, ?_⟩
  refine Jp.alloc 10 10 rfl (want_all rfl) rfl rfl rfl Try.zeroValue35 fun b10 => ⟨Kp.true, ?_⟩
  first | refine Jp.storeAll 9 rfl (want_all rfl) rfl rfl Try.sizeOf32 rfl rfl (by first | rfl | assumption) (by first | rfl | assumption) rfl rfl (fun k _ _ => noFr0 k) Kp.true ?_ | refine Jp.storeAll 10 rfl (want_all rfl) rfl rfl Try.sizeOf32 rfl rfl (by first | rfl | assumption) (by first | rfl | assumption) rfl rfl (fun k _ _ => noFr0 k) Kp.true ?_
  first | refine Jp.storeAll 9 rfl (want_all rfl) rfl rfl Try.sizeOf35 rfl rfl (by first | rfl | assumption) (by first | rfl | assumption) rfl rfl (fun k _ _ => noFr0 k) Kp.true ?_ | refine Jp.storeAll 10 rfl (want_all rfl) rfl rfl Try.sizeOf35 rfl rfl (by first | rfl | assumption) (by first | rfl | assumption) rfl rfl (fun k _ _ => noFr0 k) Kp.true ?_
  refine Jp.done hK14 ?_
  refine Cd.seq fun K15 hK15 => ?_
  refine Cd.plain [(0, false), (1, false)] rfl rfl ?_
  refine Jp.y 73 rfl (want_all rfl) rfl rfl Kp.true (by first | exact Y.fieldAddrP rfl rfl Try.underlying32 rfl Try.sizeOf25 (by decide) (show _ + 32 = _ from rfl) | exact Y.fieldAddr rfl rfl Try.underlying32 rfl Try.sizeOf25 (by decide)) ?_
  refine Jp.storeC 2 (Pt b2 (.cells (kS 0 4098 4104 0).cells.toArray 32)) rfl (want_all rfl) rfl rfl Try.sizeOf25 rfl rfl rfl rfl rfl (SetC.stPc rfl 4104) Kp.true ?_
  have S4 := step_spec bm kM (kS 0 4098 4104 0) (kS_ok (by decide) (by decide) (by decide) (by decide))
  rw [kT4] at S4
  have hl4 : (kS 0 4098 4104 0).cells.length = 34 := rfl
  refine Jp.done hK15 ?_
  refine Cd.seq fun K16 hK16 => ?_
  refine Cd.plain [(0, false), (1, false), (2, false), (3, false), (4, false), (5, false), (6, false), (7, false), (8, false), (9, false)] rfl rfl ?_
  refine Jp.y 75 rfl (want_all rfl) rfl rfl Kp.true (Y.move rfl rfl) ?_
  refine Jp.y 76 rfl (want_all rfl) rfl rfl Kp.true (by first | exact Y.loadAggO 2 rfl Try.isAgg32 Try.sizeOf32 rfl rfl (by first | rfl | assumption)) ?_
  refine Jp.call [0] [0] S4 77 rfl (want_all rfl) rfl rfl (Runs.fn rfl Try.call15 rfl) (by decide) (by decide) rfl trivial ?_
  rintro v34 ρ34 L34 ⟨rfl, rfl, rfl⟩
  refine ⟨rfl, fun hle34 => ⟨Kp.true, ?_⟩⟩
  refine Jp.y 74 rfl (want_all rfl) rfl rfl Kp.true (Y.move rfl rfl) ?_
  refine Jp.y 78 rfl (want_all rfl) rfl rfl Kp.true (Y.extract rfl rfl rfl) ?_
  refine Jp.y 79 rfl (want_all rfl) rfl rfl Kp.true (Y.extract rfl rfl rfl) ?_
  refine Jp.alloc 11 11 rfl (want_all rfl) rfl rfl rfl Try.zeroValue32 fun b11 => ⟨Kp.true, ?_⟩
  refine Jp.alloc 12 12 rfl (want_all rfl) rfl rfl rfl Try.zeroValue35 fun b12 => ⟨Kp.true, ?_⟩
  first | refine Jp.storeAll 11 rfl (want_all rfl) rfl rfl Try.sizeOf32 rfl rfl (by first | rfl | assumption) (by first | rfl | assumption) rfl rfl (fun k _ _ => noFr0 k) Kp.true ?_ | refine Jp.storeAll 12 rfl (want_all rfl) rfl rfl Try.sizeOf32 rfl rfl (by first | rfl | assumption) (by first | rfl | assumption) rfl rfl (fun k _ _ => noFr0 k) Kp.true ?_
  first | refine Jp.storeAll 11 rfl (want_all rfl) rfl rfl Try.sizeOf35 rfl rfl (by first | rfl | assumption) (by first | rfl | assumption) rfl rfl (fun k _ _ => noFr0 k) Kp.true ?_ | refine Jp.storeAll 12 rfl (want_all rfl) rfl rfl Try.sizeOf35 rfl rfl (by first | rfl | assumption) (by first | rfl | assumption) rfl rfl (fun k _ _ => noFr0 k) Kp.true ?_
  refine Jp.done hK16 ?_
  refine Cd.seq fun K17 hK17 => ?_
  refine Cd.plain [(0, false), (1, false), (2, false)] rfl rfl ?_
  refine Jp.y 80 rfl (want_all rfl) rfl rfl Kp.true (by first | exact Y.fieldAddrP rfl rfl Try.underlying32 rfl Try.sizeOf30 (by decide) (show _ + 0 = _ from rfl) | exact Y.fieldAddr rfl rfl Try.underlying32 rfl Try.sizeOf30 (by decide)) ?_
  refine Jp.y 81 rfl (want_all rfl) rfl rfl Kp.true (Y.indexArrP rfl rfl rfl Try.underlying30 Try.sizeOf25 (by first | decide | omega) (by first | decide | omega) rfl) ?_
  refine Jp.storeC 2 (Pt b2 (.cells (kS 0 65540 4104 0).cells.toArray 32)) rfl (want_all rfl) rfl rfl Try.sizeOf25 rfl rfl rfl rfl rfl (SetC.st rfl (by decide) 65540) Kp.true ?_
  refine Jp.done hK17 ?_
  refine Cd.seq fun K18 hK18 => ?_
  refine Cd.plain [(0, false), (1, false)] rfl rfl ?_
  refine Jp.y 82 rfl (want_all rfl) rfl rfl Kp.true (by first | exact Y.fieldAddrP rfl rfl Try.underlying32 rfl Try.sizeOf25 (by decide) (show _ + 32 = _ from rfl) | exact Y.fieldAddr rfl rfl Try.underlying32 rfl Try.sizeOf25 (by decide)) ?_
  refine Jp.storeC 2 (Pt b2 (.cells (kS 0 65540 4108 0).cells.toArray 32)) rfl (want_all rfl) rfl rfl Try.sizeOf25 rfl rfl rfl rfl rfl (SetC.stPc rfl 4108) Kp.true ?_
  have S5 := step_spec bm kM (kS 0 65540 4108 0) (kS_ok (by decide) (by decide) (by decide) (by decide))
  rw [kT5] at S5
  have hl5 : (kS 0 65540 4108 0).cells.length = 34 := rfl
  refine Jp.done hK18 ?_
  refine Cd.seq fun K19 hK19 => ?_
  refine Cd.plain [(0, false), (1, false), (2, false), (3, false), (4, false), (5, false), (6, false), (7, false), (8, false), (9, false)] rfl rfl ?_
  refine Jp.y 84 rfl (want_all rfl) rfl rfl Kp.true (Y.move rfl rfl) ?_
  refine Jp.y 85 rfl (want_all rfl) rfl rfl Kp.true (by first | exact Y.loadAggO 2 rfl Try.isAgg32 Try.sizeOf32 rfl rfl (by first | rfl | assumption)) ?_
  refine Jp.call [0] [0] S5 86 rfl (want_all rfl) rfl rfl (Runs.fn rfl Try.call15 rfl) (by decide) (by decide) rfl trivial ?_
  rintro v35 ρ35 L35 ⟨rfl, rfl, rfl⟩
  refine ⟨rfl, fun hle35 => ⟨Kp.true, ?_⟩⟩
  refine Jp.y 83 rfl (want_all rfl) rfl rfl Kp.true (Y.move rfl rfl) ?_
  refine Jp.y 87 rfl (want_all rfl) rfl rfl Kp.true (Y.extract rfl rfl rfl) ?_
  refine Jp.y 88 rfl (want_all rfl) rfl rfl Kp.true (Y.extract rfl rfl rfl) ?_
  refine Jp.alloc 13 13 rfl (want_all rfl) rfl rfl rfl Try.zeroValue32 fun b13 => ⟨Kp.true, ?_⟩
  refine Jp.alloc 14 14 rfl (want_all rfl) rfl rfl rfl Try.zeroValue35 fun b14 => ⟨Kp.true, ?_⟩
  first | refine Jp.storeAll 13 rfl (want_all rfl) rfl rfl Try.sizeOf32 rfl rfl (by first | rfl | assumption) (by first | rfl | assumption) rfl rfl (fun k _ _ => noFr0 k) Kp.true ?_ | refine Jp.storeAll 14 rfl (want_all rfl) rfl rfl Try.sizeOf32 rfl rfl (by first | rfl | assumption) (by first | rfl | assumption) rfl rfl (fun k _ _ => noFr0 k) Kp.true ?_
  first | refine Jp.storeAll 13 rfl (want_all rfl) rfl rfl Try.sizeOf35 rfl rfl (by first | rfl | assumption) (by first | rfl | assumption) rfl rfl (fun k _ _ => noFr0 k) Kp.true ?_ | refine Jp.storeAll 14 rfl (want_all rfl) rfl rfl Try.sizeOf35 rfl rfl (by first | rfl | assumption) (by first | rfl | assumption) rfl rfl (fun k _ _ => noFr0 k) Kp.true ?_
  refine Jp.done hK19 ?_
  refine Cd.seq fun K20 hK20 => ?_
  refine Cd.plain [(0, false), (1, false)] rfl rfl ?_
  refine Jp.y 89 rfl (want_all rfl) rfl rfl Kp.true (by first | exact Y.fieldAddrP rfl rfl Try.underlying32 rfl Try.sizeOf25 (by decide) (show _ + 32 = _ from rfl) | exact Y.fieldAddr rfl rfl Try.underlying32 rfl Try.sizeOf25 (by decide)) ?_
  refine Jp.storeC 2 (Pt b2 (.cells (kS 0 65540 4112 0).cells.toArray 32)) rfl (want_all rfl) rfl rfl Try.sizeOf25 rfl rfl rfl rfl rfl (SetC.stPc rfl 4112) Kp.true ?_
  have S6 := step_spec bm kM (kS 0 65540 4112 0) (kS_ok (by decide) (by decide) (by decide) (by decide))
  rw [kT6] at S6
  have hl6 : (kS 0 65540 4112 0).cells.length = 34 := rfl
  refine Jp.done hK20 ?_
  refine Cd.seq fun K21 hK21 => ?_
  refine Cd.plain [(0, false), (1, false), (2, false), (3, false), (4, false), (5, false), (6, false), (7, false), (8, false), (9, false)] rfl rfl ?_
  refine Jp.y 91 rfl (want_all rfl) rfl rfl Kp.true (Y.move rfl rfl) ?_
  refine Jp.y 92 rfl (want_all rfl) rfl rfl Kp.true (by first | exact Y.loadAggO 2 rfl Try.isAgg32 Try.sizeOf32 rfl rfl (by first | rfl | assumption)) ?_
  refine Jp.call [0] [0] S6 93 rfl (want_all rfl) rfl rfl (Runs.fn rfl Try.call15 rfl) (by decide) (by decide) rfl trivial ?_
  rintro v36 ρ36 L36 ⟨rfl, rfl, rfl⟩
  refine ⟨rfl, fun hle36 => ⟨Kp.true, ?_⟩⟩
  refine Jp.y 90 rfl (want_all rfl) rfl rfl Kp.true (Y.move rfl rfl) ?_
  refine Jp.y 94 rfl (want_all rfl) rfl rfl Kp.true (Y.extract rfl rfl rfl) ?_
  refine Jp.y 95 rfl (want_all rfl) rfl rfl Kp.true (Y.extract rfl rfl rfl) ?_
  refine Jp.alloc 15 15 rfl (want_all rfl) rfl rfl rfl Try.zeroValue32 fun b15 => ⟨Kp.true, ?_⟩
  refine Jp.alloc 16 16 rfl (want_all rfl) rfl rfl rfl Try.zeroValue35 fun b16 => ⟨Kp.true, ?_⟩
  first | refine Jp.storeAll 15 rfl (want_all rfl) rfl rfl Try.sizeOf32 rfl rfl (by first | rfl | assumption) (by first | rfl | assumption) rfl rfl (fun k _ _ => noFr0 k) Kp.true ?_ | refine Jp.storeAll 16 rfl (want_all rfl) rfl rfl Try.sizeOf32 rfl rfl (by first | rfl | assumption) (by first | rfl | assumption) rfl rfl (fun k _ _ => noFr0 k) Kp.true ?_
  first | refine Jp.storeAll 15 rfl (want_all rfl) rfl rfl Try.sizeOf35 rfl rfl (by first | rfl | assumption) (by first | rfl | assumption) rfl rfl (fun k _ _ => noFr0 k) Kp.true ?_ | refine Jp.storeAll 16 rfl (want_all rfl) rfl rfl Try.sizeOf35 rfl rfl (by first | rfl | assumption) (by first | rfl | assumption) rfl rfl (fun k _ _ => noFr0 k) Kp.true ?_
  refine Jp.done hK21 ?_
  refine Cd.seq fun K22 hK22 => ?_
  refine Cd.plain [(0, false), (1, false)] rfl rfl ?_
  refine Jp.y 96 rfl (want_all rfl) rfl rfl Kp.true (by first | exact Y.fieldAddrP rfl rfl Try.underlying32 rfl Try.sizeOf25 (by decide) (show _ + 32 = _ from rfl) | exact Y.fieldAddr rfl rfl Try.underlying32 rfl Try.sizeOf25 (by decide)) ?_
  refine Jp.storeC 2 (Pt b2 (.cells (kS 0 65540 4116 0).cells.toArray 32)) rfl (want_all rfl) rfl rfl Try.sizeOf25 rfl rfl rfl rfl rfl (SetC.stPc rfl 4116) Kp.true ?_
  have S7 := step_spec bm kM (kS 0 65540 4116 0) (kS_ok (by decide) (by decide) (by decide) (by decide))
  rw [kT7] at S7
  have hl7 : (kS 0 65540 4116 0).cells.length = 34 := rfl
  refine Jp.done hK22 ?_
  refine Cd.seq fun K23 hK23 => ?_
  refine Cd.plain [(0, false), (1, false), (2, false), (3, false), (4, false), (5, false), (6, false), (7, false), (8, false), (9, false)] rfl rfl ?_
  refine Jp.y 98 rfl (want_all rfl) rfl rfl Kp.true (Y.move rfl rfl) ?_
  refine Jp.y 99 rfl (want_all rfl) rfl rfl Kp.true (by first | exact Y.loadAggO 2 rfl Try.isAgg32 Try.sizeOf32 rfl rfl (by first | rfl | assumption)) ?_
  refine Jp.call [0] [0] S7 100 rfl (want_all rfl) rfl rfl (Runs.fn rfl Try.call15 rfl) (by decide) (by decide) rfl trivial ?_
  rintro v37 ρ37 L37 ⟨rfl, rfl, rfl⟩
  refine ⟨rfl, fun hle37 => ⟨Kp.true, ?_⟩⟩
  refine Jp.y 97 rfl (want_all rfl) rfl rfl Kp.true (Y.move rfl rfl) ?_
  refine Jp.y 101 rfl (want_all rfl) rfl rfl Kp.true (Y.extract rfl rfl rfl) ?_
  refine Jp.y 102 rfl (want_all rfl) rfl rfl Kp.true (Y.extract rfl rfl rfl) ?_
  refine Jp.alloc 17 17 rfl (want_all rfl) rfl rfl rfl Try.zeroValue32 fun b17 => ⟨Kp.true, ?_⟩
  refine Jp.alloc 18 18 rfl (want_all rfl) rfl rfl rfl Try.zeroValue35 fun b18 => ⟨Kp.true, ?_⟩
  first | refine Jp.storeAll 17 rfl (want_all rfl) rfl rfl Try.sizeOf32 rfl rfl (by first | rfl | assumption) (by first | rfl | assumption) rfl rfl (fun k _ _ => noFr0 k) Kp.true ?_ | refine Jp.storeAll 18 rfl (want_all rfl) rfl rfl Try.sizeOf32 rfl rfl (by first | rfl | assumption) (by first | rfl | assumption) rfl rfl (fun k _ _ => noFr0 k) Kp.true ?_
  first | refine Jp.storeAll 17 rfl (want_all rfl) rfl rfl Try.sizeOf35 rfl rfl (by first | rfl | assumption) (by first | rfl | assumption) rfl rfl (fun k _ _ => noFr0 k) Kp.true ?_ | refine Jp.storeAll 18 rfl (want_all rfl) rfl rfl Try.sizeOf35 rfl rfl (by first | rfl | assumption) (by first | rfl | assumption) rfl rfl (fun k _ _ => noFr0 k) Kp.true ?_
  refine Jp.done hK23 ?_
  refine Cd.seq fun K24 hK24 => ?_
  refine Cd.plain [(0, false), (1, false)] rfl rfl ?_
  refine Jp.y 103 rfl (want_all rfl) rfl rfl Kp.true (by first | exact Y.fieldAddrP rfl rfl Try.underlying32 rfl Try.sizeOf25 (by decide) (show _ + 32 = _ from rfl) | exact Y.fieldAddr rfl rfl Try.underlying32 rfl Try.sizeOf25 (by decide)) ?_
  refine Jp.storeC 2 (Pt b2 (.cells (kS 0 65540 4120 0).cells.toArray 32)) rfl (want_all rfl) rfl rfl Try.sizeOf25 rfl rfl rfl rfl rfl (SetC.stPc rfl 4120) Kp.true ?_
  refine Jp.done hK24 ?_
  refine Cd.seq fun K25 hK25 => ?_
  refine Cd.plain [(0, false), (1, false), (2, false)] rfl rfl ?_
  refine Jp.y 104 rfl (want_all rfl) rfl rfl Kp.true (by first | exact Y.fieldAddrP rfl rfl Try.underlying32 rfl Try.sizeOf30 (by decide) (show _ + 0 = _ from rfl) | exact Y.fieldAddr rfl rfl Try.underlying32 rfl Try.sizeOf30 (by decide)) ?_
  refine Jp.y 105 rfl (want_all rfl) rfl rfl Kp.true (Y.indexArrP rfl rfl rfl Try.underlying30 Try.sizeOf25 (by first | decide | omega) (by first | decide | omega) rfl) ?_
  refine Jp.storeC 2 (Pt b2 (.cells (kS 9 65540 4120 0).cells.toArray 32)) rfl (want_all rfl) rfl rfl Try.sizeOf25 rfl rfl rfl rfl rfl (SetC.st rfl (by decide) 9) Kp.true ?_
  have S8 := step_spec bm kM (kS 9 65540 4120 0) (kS_ok (by decide) (by decide) (by decide) (by decide))
  rw [kT8] at S8
  have hl8 : (kS 9 65540 4120 0).cells.length = 34 := rfl
  refine Jp.done hK25 ?_
  refine Cd.seq fun K26 hK26 => ?_
  refine Cd.plain [(0, false), (1, false), (2, false), (3, false), (4, false), (5, false), (6, false), (7, false), (8, false), (9, false)] rfl rfl ?_
  refine Jp.y 107 rfl (want_all rfl) rfl rfl Kp.true (Y.move rfl rfl) ?_
  refine Jp.y 108 rfl (want_all rfl) rfl rfl Kp.true (by first | exact Y.loadAggO 2 rfl Try.isAgg32 Try.sizeOf32 rfl rfl (by first | rfl | assumption)) ?_
  refine Jp.call [0] [0] S8 109 rfl (want_all rfl) rfl rfl (Runs.fn rfl Try.call15 rfl) (by decide) (by decide) rfl trivial ?_
  rintro v38 ρ38 L38 ⟨rfl, rfl, rfl⟩
  refine ⟨rfl, fun hle38 => ⟨Kp.true, ?_⟩⟩
  refine Jp.y 106 rfl (want_all rfl) rfl rfl Kp.true (Y.move rfl rfl) ?_
  refine Jp.y 110 rfl (want_all rfl) rfl rfl Kp.true (Y.extract rfl rfl rfl) ?_
  refine Jp.y 111 rfl (want_all rfl) rfl rfl Kp.true (Y.extract rfl rfl rfl) ?_
  refine Jp.alloc 19 19 rfl (want_all rfl) rfl rfl rfl Try.zeroValue32 fun b19 => ⟨Kp.true, ?_⟩
  refine Jp.alloc 20 20 rfl (want_all rfl) rfl rfl rfl Try.zeroValue35 fun b20 => ⟨Kp.true, ?_⟩
  first | refine Jp.storeAll 19 rfl (want_all rfl) rfl rfl Try.sizeOf32 rfl rfl (by first | rfl | assumption) (by first | rfl | assumption) rfl rfl (fun k _ _ => noFr0 k) Kp.true ?_ | refine Jp.storeAll 20 rfl (want_all rfl) rfl rfl Try.sizeOf32 rfl rfl (by first | rfl | assumption) (by first | rfl | assumption) rfl rfl (fun k _ _ => noFr0 k) Kp.true ?_
  first | refine Jp.storeAll 19 rfl (want_all rfl) rfl rfl Try.sizeOf35 rfl rfl (by first | rfl | assumption) (by first | rfl | assumption) rfl rfl (fun k _ _ => noFr0 k) Kp.true ?_ | refine Jp.storeAll 20 rfl (want_all rfl) rfl rfl Try.sizeOf35 rfl rfl (by first | rfl | assumption) (by first | rfl | assumption) rfl rfl (fun k _ _ => noFr0 k) Kp.true ?_
  refine Jp.done hK26 ?_
  refine Cd.seq fun K27 hK27 => ?_
  refine Cd.plain [(0, false), (1, false)] rfl rfl ?_
  refine Jp.y 112 rfl (want_all rfl) rfl rfl Kp.true (by first | exact Y.fieldAddrP rfl rfl Try.underlying32 rfl Try.sizeOf25 (by decide) (show _ + 32 = _ from rfl) | exact Y.fieldAddr rfl rfl Try.underlying32 rfl Try.sizeOf25 (by decide)) ?_
  refine Jp.storeC 2 (Pt b2 (.cells (kS 9 65540 65536 0).cells.toArray 32)) rfl (want_all rfl) rfl rfl Try.sizeOf25 rfl rfl rfl rfl rfl (SetC.stPc rfl 65536) Kp.true ?_
  have S9 := step_spec bm kM (kS 9 65540 65536 0) (kS_ok (by decide) (by decide) (by decide) (by decide))
  rw [kT9] at S9
  have hl9 : (kS 9 65540 65536 0).cells.length = 34 := rfl
  refine Jp.done hK27 ?_
  refine Cd.seq fun K28 hK28 => ?_
  refine Cd.plain [(0, false), (1, false), (2, false), (3, false), (4, false), (5, false), (6, false), (7, false), (8, false), (9, false)] rfl rfl ?_
  refine Jp.y 114 rfl (want_all rfl) rfl rfl Kp.true (Y.move rfl rfl) ?_
  refine Jp.y 115 rfl (want_all rfl) rfl rfl Kp.true (by first | exact Y.loadAggO 2 rfl Try.isAgg32 Try.sizeOf32 rfl rfl (by first | rfl | assumption)) ?_
  refine Jp.call [0] [0] S9 116 rfl (want_all rfl) rfl rfl (Runs.fn rfl Try.call15 rfl) (by decide) (by decide) rfl trivial ?_
  rintro v39 ρ39 L39 ⟨rfl, rfl, rfl⟩
  refine ⟨rfl, fun hle39 => ⟨Kp.true, ?_⟩⟩
  refine Jp.y 113 rfl (want_all rfl) rfl rfl Kp.true (Y.move rfl rfl) ?_
  refine Jp.y 117 rfl (want_all rfl) rfl rfl Kp.true (Y.extract rfl rfl rfl) ?_
  refine Jp.y 118 rfl (want_all rfl) rfl rfl Kp.true (Y.extract rfl rfl rfl) ?_
  refine Jp.alloc 21 21 rfl (want_all rfl) rfl rfl rfl Try.zeroValue32 fun b21 => ⟨Kp.true, ?_⟩
  refine Jp.alloc 22 22 rfl (want_all rfl) rfl rfl rfl Try.zeroValue35 fun b22 => ⟨Kp.true, ?_⟩
  first | refine Jp.storeAll 21 rfl (want_all rfl) rfl rfl Try.sizeOf32 rfl rfl (by first | rfl | assumption) (by first | rfl | assumption) rfl rfl (fun k _ _ => noFr0 k) Kp.true ?_ | refine Jp.storeAll 22 rfl (want_all rfl) rfl rfl Try.sizeOf32 rfl rfl (by first | rfl | assumption) (by first | rfl | assumption) rfl rfl (fun k _ _ => noFr0 k) Kp.true ?_
  first | refine Jp.storeAll 21 rfl (want_all rfl) rfl rfl Try.sizeOf35 rfl rfl (by first | rfl | assumption) (by first | rfl | assumption) rfl rfl (fun k _ _ => noFr0 k) Kp.true ?_ | refine Jp.storeAll 22 rfl (want_all rfl) rfl rfl Try.sizeOf35 rfl rfl (by first | rfl | assumption) (by first | rfl | assumption) rfl rfl (fun k _ _ => noFr0 k) Kp.true ?_
  refine Jp.done hK28 ?_
  refine Cd.seq fun K29 hK29 => ?_
  refine Cd.plain [(0, false), (1, false)] rfl rfl ?_
  refine Jp.y 119 rfl (want_all rfl) rfl rfl Kp.true (by first | exact Y.fieldAddrP rfl rfl Try.underlying32 rfl Try.sizeOf25 (by decide) (show _ + 32 = _ from rfl) | exact Y.fieldAddr rfl rfl Try.underlying32 rfl Try.sizeOf25 (by decide)) ?_
  refine Jp.storeC 2 (Pt b2 (.cells (kS 9 65540 4097 0).cells.toArray 32)) rfl (want_all rfl) rfl rfl Try.sizeOf25 rfl rfl rfl rfl rfl (SetC.stPc rfl 4097) Kp.true ?_
  have S10 := step_spec bm kM (kS 9 65540 4097 0) (kS_ok (by decide) (by decide) (by decide) (by decide))
  rw [kT10] at S10
  have hl10 : (kS 9 65540 4097 0).cells.length = 34 := rfl
  refine Jp.done hK29 ?_
  refine Cd.seq fun K30 hK30 => ?_
  refine Cd.plain [(0, false), (1, false), (2, false), (3, false), (4, false), (5, false), (6, false), (7, false), (8, false), (9, false)] rfl rfl ?_
  refine Jp.y 121 rfl (want_all rfl) rfl rfl Kp.true (Y.move rfl rfl) ?_
  refine Jp.y 122 rfl (want_all rfl) rfl rfl Kp.true (by first | exact Y.loadAggO 2 rfl Try.isAgg32 Try.sizeOf32 rfl rfl (by first | rfl | assumption)) ?_
  refine Jp.call [0] [0] S10 123 rfl (want_all rfl) rfl rfl (Runs.fn rfl Try.call15 rfl) (by decide) (by decide) rfl trivial ?_
  rintro v40 ρ40 L40 ⟨rfl, rfl, rfl⟩
  refine ⟨rfl, fun hle40 => ⟨Kp.true, ?_⟩⟩
  refine Jp.y 120 rfl (want_all rfl) rfl rfl Kp.true (Y.move rfl rfl) ?_
  refine Jp.y 124 rfl (want_all rfl) rfl rfl Kp.true (Y.extract rfl rfl rfl) ?_
  refine Jp.y 125 rfl (want_all rfl) rfl rfl Kp.true (Y.extract rfl rfl rfl) ?_
  refine Jp.alloc 23 23 rfl (want_all rfl) rfl rfl rfl Try.zeroValue32 fun b23 => ⟨Kp.true, ?_⟩
  refine Jp.alloc 24 24 rfl (want_all rfl) rfl rfl rfl Try.zeroValue35 fun b24 => ⟨Kp.true, ?_⟩
  first | refine Jp.storeAll 23 rfl (want_all rfl) rfl rfl Try.sizeOf32 rfl rfl (by first | rfl | assumption) (by first | rfl | assumption) rfl rfl (fun k _ _ => noFr0 k) Kp.true ?_ | refine Jp.storeAll 24 rfl (want_all rfl) rfl rfl Try.sizeOf32 rfl rfl (by first | rfl | assumption) (by first | rfl | assumption) rfl rfl (fun k _ _ => noFr0 k) Kp.true ?_
  first | refine Jp.storeAll 23 rfl (want_all rfl) rfl rfl Try.sizeOf35 rfl rfl (by first | rfl | assumption) (by first | rfl | assumption) rfl rfl (fun k _ _ => noFr0 k) Kp.true ?_ | refine Jp.storeAll 24 rfl (want_all rfl) rfl rfl Try.sizeOf35 rfl rfl (by first | rfl | assumption) (by first | rfl | assumption) rfl rfl (fun k _ _ => noFr0 k) Kp.true ?_
  refine Jp.done hK30 ?_
  refine Cd.seq fun K31 hK31 => ?_
  refine Cd.plain [(0, false), (1, false), (2, false), (3, false), (4, false), (5, false), (6, false), (7, false), (8, false), (9, false), (10, false), (11, false), (12, false), (13, false), (14, false), (15, false), (16, false), (17, false), (18, false), (19, false), (20, false), (21, false), (22, false), (23, false), (24, false), (25, false), (26, false), (27, false), (28, false), (29, false), (30, false), (31, false), (32, false), (33, false), (34, false), (35, false), (36, false), (37, false), (38, false), (39, false), (40, false), (41, false), (42, false), (43, false), (44, false), (45, false), (46, false), (47, false), (48, false), (49, false), (50, false), (51, false), (52, false), (53, false), (54, false), (55, false), (56, false), (57, false), (58, false), (59, false), (60, false), (61, false), (62, false), (63, false), (64, false), (65, false), (66, false), (67, false), (68, false), (69, false), (70, false), (71, false), (72, false), (73, false), (74, false), (75, false)] rfl rfl ?_
  refine Jp.y 126 rfl (want_all rfl) rfl rfl Kp.true (by first | exact Y.loadAggO 3 rfl Try.isAgg35 Try.sizeOf35 rfl rfl (by first | rfl | assumption) | exact Y.loadAggO 15 rfl Try.isAgg35 Try.sizeOf35 rfl rfl (by first | rfl | assumption) | exact Y.loadAggO 19 rfl Try.isAgg35 Try.sizeOf35 rfl rfl (by first | rfl | assumption) | exact Y.loadAggO 4 rfl Try.isAgg35 Try.sizeOf35 rfl rfl (by first | rfl | assumption) | exact Y.loadAggO 6 rfl Try.isAgg35 Try.sizeOf35 rfl rfl (by first | rfl | assumption) | exact Y.loadAggO 10 rfl Try.isAgg35 Try.sizeOf35 rfl rfl (by first | rfl | assumption) | exact Y.loadAggO 12 rfl Try.isAgg35 Try.sizeOf35 rfl rfl (by first | rfl | assumption) | exact Y.loadAggO 14 rfl Try.isAgg35 Try.sizeOf35 rfl rfl (by first | rfl | assumption) | exact Y.loadAggO 16 rfl Try.isAgg35 Try.sizeOf35 rfl rfl (by first | rfl | assumption) | exact Y.loadAggO 18 rfl Try.isAgg35 Try.sizeOf35 rfl rfl (by first | rfl | assumption) | exact Y.loadAggO 20 rfl Try.isAgg35 Try.sizeOf35 rfl rfl (by first | rfl | assumption) | exact Y.loadAggO 22 rfl Try.isAgg35 Try.sizeOf35 rfl rfl (by first | rfl | assumption) | exact Y.loadAggO 24 rfl Try.isAgg35 Try.sizeOf35 rfl rfl (by first | rfl | assumption) | exact Y.loadAggO 8 rfl Try.isAgg35 Try.sizeOf35 rfl rfl (by first | rfl | assumption)) ?_
  refine Jp.y 127 rfl (want_all rfl) rfl rfl Kp.true (Y.struct [] [_, _, _] rfl rfl places35 Try.zeroValue35 rfl) ?_
  refine Jp.y 128 rfl (want_all rfl) rfl rfl Kp.true (Y.eqlS (xs := (EvP.mk 0 0 0).cells.toArray) (ys := (EvP.mk 0 0 0).cells.toArray) (r := true) rfl rfl rfl ev_guard ev_fields ev_stood (fun w => by rw [ev_eq, (evEq_iff _ _).2 rfl])) ?_
  refine Jp.y 129 rfl (want_all rfl) rfl rfl Kp.true (Y.move rfl rfl) ?_
  refine Jp.splitF 129 rfl (fun g129 => ?_) (fun g129 => ?_)
  · skip
    exact absurd g129 (by simp [kS])
  try simp only [decide_eq_false_iff_not, decide_eq_true_eq, Int.not_lt, Int.not_le, Bool.not_eq_false, Bool.not_eq_true, Bool.not_true, Bool.not_false, Bool.not_eq_true', Bool.not_eq_false', beq_eq_false_iff_ne, ne_eq, beq_iff_eq, bne_iff_ne, bne_eq_false_iff_eq, Classical.not_not] at g129
  refine Jp.y 130 rfl (want_as rfl rfl rfl rfl) rfl rfl Kp.true (by first | exact Y.fieldAddrP rfl rfl Try.underlying32 rfl Try.sizeOf25 (by decide) (show _ + 32 = _ from rfl) | exact Y.fieldAddr rfl rfl Try.underlying32 rfl Try.sizeOf25 (by decide)) ?_
  refine Jp.y 131 rfl (want_as rfl rfl rfl rfl) rfl rfl Kp.true (by first | exact Y.loadO 3 rfl Try.isAgg25 rfl rfl rfl | exact Y.loadO 15 rfl Try.isAgg25 rfl rfl rfl | exact Y.loadO 19 rfl Try.isAgg25 rfl rfl rfl | exact Y.loadO 4 rfl Try.isAgg25 rfl rfl rfl | exact Y.loadO 6 rfl Try.isAgg25 rfl rfl rfl | exact Y.loadO 10 rfl Try.isAgg25 rfl rfl rfl | exact Y.loadO 12 rfl Try.isAgg25 rfl rfl rfl | exact Y.loadO 14 rfl Try.isAgg25 rfl rfl rfl | exact Y.loadO 16 rfl Try.isAgg25 rfl rfl rfl | exact Y.loadO 18 rfl Try.isAgg25 rfl rfl rfl | exact Y.loadO 20 rfl Try.isAgg25 rfl rfl rfl | exact Y.loadO 22 rfl Try.isAgg25 rfl rfl rfl | exact Y.loadO 24 rfl Try.isAgg25 rfl rfl rfl | exact Y.loadO 8 rfl Try.isAgg25 rfl rfl rfl) ?_
  refine Jp.y 132 rfl (want_as rfl rfl rfl rfl) rfl rfl Kp.true (Y.eql rfl rfl rfl) ?_
  refine Jp.y 133 rfl (want_all rfl) rfl rfl Kp.true (Y.pickT rfl rfl rfl) ?_
  refine Jp.y 134 rfl (want_all rfl) rfl rfl Kp.true (Y.move rfl rfl) ?_
  refine Jp.splitF 134 rfl (fun g134 => ?_) (fun g134 => ?_)
  · skip
    exact absurd g134 (by simp [kS])
  try simp only [decide_eq_false_iff_not, decide_eq_true_eq, Int.not_lt, Int.not_le, Bool.not_eq_false, Bool.not_eq_true, Bool.not_true, Bool.not_false, Bool.not_eq_true', Bool.not_eq_false', beq_eq_false_iff_ne, ne_eq, beq_iff_eq, bne_iff_ne, bne_eq_false_iff_eq, Classical.not_not] at g134
  refine Jp.y 135 rfl (want_as rfl rfl rfl rfl) rfl rfl Kp.true (by first | exact Y.fieldAddrP rfl rfl Try.underlying32 rfl Try.sizeOf30 (by decide) (show _ + 0 = _ from rfl) | exact Y.fieldAddr rfl rfl Try.underlying32 rfl Try.sizeOf30 (by decide)) ?_
  refine Jp.y 136 rfl (want_as rfl rfl rfl rfl) rfl rfl Kp.true (Y.indexArrP rfl rfl rfl Try.underlying30 Try.sizeOf25 (by first | decide | omega) (by first | decide | omega) rfl) ?_
  refine Jp.y 137 rfl (want_as rfl rfl rfl rfl) rfl rfl Kp.true (by first | exact Y.loadO 3 rfl Try.isAgg25 rfl rfl rfl | exact Y.loadO 15 rfl Try.isAgg25 rfl rfl rfl | exact Y.loadO 19 rfl Try.isAgg25 rfl rfl rfl | exact Y.loadO 4 rfl Try.isAgg25 rfl rfl rfl | exact Y.loadO 6 rfl Try.isAgg25 rfl rfl rfl | exact Y.loadO 10 rfl Try.isAgg25 rfl rfl rfl | exact Y.loadO 12 rfl Try.isAgg25 rfl rfl rfl | exact Y.loadO 14 rfl Try.isAgg25 rfl rfl rfl | exact Y.loadO 16 rfl Try.isAgg25 rfl rfl rfl | exact Y.loadO 18 rfl Try.isAgg25 rfl rfl rfl | exact Y.loadO 20 rfl Try.isAgg25 rfl rfl rfl | exact Y.loadO 22 rfl Try.isAgg25 rfl rfl rfl | exact Y.loadO 24 rfl Try.isAgg25 rfl rfl rfl | exact Y.loadO 8 rfl Try.isAgg25 rfl rfl rfl) ?_
  refine Jp.y 138 rfl (want_as rfl rfl rfl rfl) rfl rfl Kp.true (Y.eql rfl rfl rfl) ?_
  refine Jp.y 139 rfl (want_all rfl) rfl rfl Kp.true (Y.pickT rfl rfl rfl) ?_
  refine Jp.y 140 rfl (want_all rfl) rfl rfl Kp.true (Y.move rfl rfl) ?_
  refine Jp.splitF 140 rfl (fun g140 => ?_) (fun g140 => ?_)
  · skip
    exact absurd g140 (by simp [kS])
  try simp only [decide_eq_false_iff_not, decide_eq_true_eq, Int.not_lt, Int.not_le, Bool.not_eq_false, Bool.not_eq_true, Bool.not_true, Bool.not_false, Bool.not_eq_true', Bool.not_eq_false', beq_eq_false_iff_ne, ne_eq, beq_iff_eq, bne_iff_ne, bne_eq_false_iff_eq, Classical.not_not] at g140
  refine Jp.y 141 rfl (want_as rfl rfl rfl rfl) rfl rfl Kp.true (by first | exact Y.loadAggO 3 rfl Try.isAgg35 Try.sizeOf35 rfl rfl (by first | rfl | assumption) | exact Y.loadAggO 15 rfl Try.isAgg35 Try.sizeOf35 rfl rfl (by first | rfl | assumption) | exact Y.loadAggO 19 rfl Try.isAgg35 Try.sizeOf35 rfl rfl (by first | rfl | assumption) | exact Y.loadAggO 4 rfl Try.isAgg35 Try.sizeOf35 rfl rfl (by first | rfl | assumption) | exact Y.loadAggO 6 rfl Try.isAgg35 Try.sizeOf35 rfl rfl (by first | rfl | assumption) | exact Y.loadAggO 10 rfl Try.isAgg35 Try.sizeOf35 rfl rfl (by first | rfl | assumption) | exact Y.loadAggO 12 rfl Try.isAgg35 Try.sizeOf35 rfl rfl (by first | rfl | assumption) | exact Y.loadAggO 14 rfl Try.isAgg35 Try.sizeOf35 rfl rfl (by first | rfl | assumption) | exact Y.loadAggO 16 rfl Try.isAgg35 Try.sizeOf35 rfl rfl (by first | rfl | assumption) | exact Y.loadAggO 18 rfl Try.isAgg35 Try.sizeOf35 rfl rfl (by first | rfl | assumption) | exact Y.loadAggO 20 rfl Try.isAgg35 Try.sizeOf35 rfl rfl (by first | rfl | assumption) | exact Y.loadAggO 22 rfl Try.isAgg35 Try.sizeOf35 rfl rfl (by first | rfl | assumption) | exact Y.loadAggO 24 rfl Try.isAgg35 Try.sizeOf35 rfl rfl (by first | rfl | assumption) | exact Y.loadAggO 8 rfl Try.isAgg35 Try.sizeOf35 rfl rfl (by first | rfl | assumption)) ?_
  refine Jp.y 142 rfl (want_as rfl rfl rfl rfl) rfl rfl Kp.true (Y.struct [] [_, _, _] rfl rfl places35 Try.zeroValue35 rfl) ?_
  refine Jp.y 143 rfl (want_as rfl rfl rfl rfl) rfl rfl Kp.true (Y.eqlS (xs := (EvP.mk 0 0 0).cells.toArray) (ys := (EvP.mk 0 0 0).cells.toArray) (r := true) rfl rfl rfl ev_guard ev_fields ev_stood (fun w => by rw [ev_eq, (evEq_iff _ _).2 rfl])) ?_
  refine Jp.y 144 rfl (want_all rfl) rfl rfl Kp.true (Y.pickT rfl rfl rfl) ?_
  refine Jp.y 145 rfl (want_all rfl) rfl rfl Kp.true (Y.move rfl rfl) ?_
  refine Jp.splitF 145 rfl (fun g145 => ?_) (fun g145 => ?_)
  · skip
    exact absurd g145 (by simp [kS])
  try simp only [decide_eq_false_iff_not, decide_eq_true_eq, Int.not_lt, Int.not_le, Bool.not_eq_false, Bool.not_eq_true, Bool.not_true, Bool.not_false, Bool.not_eq_true', Bool.not_eq_false', beq_eq_false_iff_ne, ne_eq, beq_iff_eq, bne_iff_ne, bne_eq_false_iff_eq, Classical.not_not] at g145
  refine Jp.y 146 rfl (want_as rfl rfl rfl rfl) rfl rfl Kp.true (by first | exact Y.loadAggO 3 rfl Try.isAgg35 Try.sizeOf35 rfl rfl (by first | rfl | assumption) | exact Y.loadAggO 15 rfl Try.isAgg35 Try.sizeOf35 rfl rfl (by first | rfl | assumption) | exact Y.loadAggO 19 rfl Try.isAgg35 Try.sizeOf35 rfl rfl (by first | rfl | assumption) | exact Y.loadAggO 4 rfl Try.isAgg35 Try.sizeOf35 rfl rfl (by first | rfl | assumption) | exact Y.loadAggO 6 rfl Try.isAgg35 Try.sizeOf35 rfl rfl (by first | rfl | assumption) | exact Y.loadAggO 10 rfl Try.isAgg35 Try.sizeOf35 rfl rfl (by first | rfl | assumption) | exact Y.loadAggO 12 rfl Try.isAgg35 Try.sizeOf35 rfl rfl (by first | rfl | assumption) | exact Y.loadAggO 14 rfl Try.isAgg35 Try.sizeOf35 rfl rfl (by first | rfl | assumption) | exact Y.loadAggO 16 rfl Try.isAgg35 Try.sizeOf35 rfl rfl (by first | rfl | assumption) | exact Y.loadAggO 18 rfl Try.isAgg35 Try.sizeOf35 rfl rfl (by first | rfl | assumption) | exact Y.loadAggO 20 rfl Try.isAgg35 Try.sizeOf35 rfl rfl (by first | rfl | assumption) | exact Y.loadAggO 22 rfl Try.isAgg35 Try.sizeOf35 rfl rfl (by first | rfl | assumption) | exact Y.loadAggO 24 rfl Try.isAgg35 Try.sizeOf35 rfl rfl (by first | rfl | assumption) | exact Y.loadAggO 8 rfl Try.isAgg35 Try.sizeOf35 rfl rfl (by first | rfl | assumption)) ?_
  refine Jp.y 147 rfl (want_as rfl rfl rfl rfl) rfl rfl Kp.true (Y.struct [(0, _), (1, _)] [_, _, _] rfl rfl places35 Try.zeroValue35 rfl) ?_
  refine Jp.y 148 rfl (want_as rfl rfl rfl rfl) rfl rfl Kp.true (Y.eqlS (xs := (EvP.mk 2 4100 0).cells.toArray) (ys := (EvP.mk 2 4100 0).cells.toArray) (r := true) rfl rfl rfl ev_guard ev_fields ev_stood (fun w => by rw [ev_eq, (evEq_iff _ _).2 rfl])) ?_
  refine Jp.y 149 rfl (want_all rfl) rfl rfl Kp.true (Y.pickT rfl rfl rfl) ?_
  refine Jp.y 150 rfl (want_all rfl) rfl rfl Kp.true (Y.move rfl rfl) ?_
  refine Jp.splitF 150 rfl (fun g150 => ?_) (fun g150 => ?_)
  · skip
    exact absurd g150 (by simp [kS])
  try simp only [decide_eq_false_iff_not, decide_eq_true_eq, Int.not_lt, Int.not_le, Bool.not_eq_false, Bool.not_eq_true, Bool.not_true, Bool.not_false, Bool.not_eq_true', Bool.not_eq_false', beq_eq_false_iff_ne, ne_eq, beq_iff_eq, bne_iff_ne, bne_eq_false_iff_eq, Classical.not_not] at g150
  refine Jp.y 151 rfl (want_as rfl rfl rfl rfl) rfl rfl Kp.true (by first | exact Y.loadAggO 3 rfl Try.isAgg35 Try.sizeOf35 rfl rfl (by first | rfl | assumption) | exact Y.loadAggO 15 rfl Try.isAgg35 Try.sizeOf35 rfl rfl (by first | rfl | assumption) | exact Y.loadAggO 19 rfl Try.isAgg35 Try.sizeOf35 rfl rfl (by first | rfl | assumption) | exact Y.loadAggO 4 rfl Try.isAgg35 Try.sizeOf35 rfl rfl (by first | rfl | assumption) | exact Y.loadAggO 6 rfl Try.isAgg35 Try.sizeOf35 rfl rfl (by first | rfl | assumption) | exact Y.loadAggO 10 rfl Try.isAgg35 Try.sizeOf35 rfl rfl (by first | rfl | assumption) | exact Y.loadAggO 12 rfl Try.isAgg35 Try.sizeOf35 rfl rfl (by first | rfl | assumption) | exact Y.loadAggO 14 rfl Try.isAgg35 Try.sizeOf35 rfl rfl (by first | rfl | assumption) | exact Y.loadAggO 16 rfl Try.isAgg35 Try.sizeOf35 rfl rfl (by first | rfl | assumption) | exact Y.loadAggO 18 rfl Try.isAgg35 Try.sizeOf35 rfl rfl (by first | rfl | assumption) | exact Y.loadAggO 20 rfl Try.isAgg35 Try.sizeOf35 rfl rfl (by first | rfl | assumption) | exact Y.loadAggO 22 rfl Try.isAgg35 Try.sizeOf35 rfl rfl (by first | rfl | assumption) | exact Y.loadAggO 24 rfl Try.isAgg35 Try.sizeOf35 rfl rfl (by first | rfl | assumption) | exact Y.loadAggO 8 rfl Try.isAgg35 Try.sizeOf35 rfl rfl (by first | rfl | assumption)) ?_
  refine Jp.y 152 rfl (want_as rfl rfl rfl rfl) rfl rfl Kp.true (Y.struct [(0, _), (1, _), (2, _)] [_, _, _] rfl rfl places35 Try.zeroValue35 rfl) ?_
  refine Jp.y 153 rfl (want_as rfl rfl rfl rfl) rfl rfl Kp.true (Y.eqlS (xs := (EvP.mk 3 4098 3).cells.toArray) (ys := (EvP.mk 3 4098 3).cells.toArray) (r := true) rfl rfl rfl ev_guard ev_fields ev_stood (fun w => by rw [ev_eq, (evEq_iff _ _).2 rfl])) ?_
  refine Jp.y 154 rfl (want_all rfl) rfl rfl Kp.true (Y.pickT rfl rfl rfl) ?_
  refine Jp.y 155 rfl (want_all rfl) rfl rfl Kp.true (Y.move rfl rfl) ?_
  refine Jp.splitF 155 rfl (fun g155 => ?_) (fun g155 => ?_)
  · skip
    exact absurd g155 (by simp [kS])
  try simp only [decide_eq_false_iff_not, decide_eq_true_eq, Int.not_lt, Int.not_le, Bool.not_eq_false, Bool.not_eq_true, Bool.not_true, Bool.not_false, Bool.not_eq_true', Bool.not_eq_false', beq_eq_false_iff_ne, ne_eq, beq_iff_eq, bne_iff_ne, bne_eq_false_iff_eq, Classical.not_not] at g155
  refine Jp.y 156 rfl (want_as rfl rfl rfl rfl) rfl rfl Kp.true (by first | exact Y.loadAggO 3 rfl Try.isAgg35 Try.sizeOf35 rfl rfl (by first | rfl | assumption) | exact Y.loadAggO 15 rfl Try.isAgg35 Try.sizeOf35 rfl rfl (by first | rfl | assumption) | exact Y.loadAggO 19 rfl Try.isAgg35 Try.sizeOf35 rfl rfl (by first | rfl | assumption) | exact Y.loadAggO 4 rfl Try.isAgg35 Try.sizeOf35 rfl rfl (by first | rfl | assumption) | exact Y.loadAggO 6 rfl Try.isAgg35 Try.sizeOf35 rfl rfl (by first | rfl | assumption) | exact Y.loadAggO 10 rfl Try.isAgg35 Try.sizeOf35 rfl rfl (by first | rfl | assumption) | exact Y.loadAggO 12 rfl Try.isAgg35 Try.sizeOf35 rfl rfl (by first | rfl | assumption) | exact Y.loadAggO 14 rfl Try.isAgg35 Try.sizeOf35 rfl rfl (by first | rfl | assumption) | exact Y.loadAggO 16 rfl Try.isAgg35 Try.sizeOf35 rfl rfl (by first | rfl | assumption) | exact Y.loadAggO 18 rfl Try.isAgg35 Try.sizeOf35 rfl rfl (by first | rfl | assumption) | exact Y.loadAggO 20 rfl Try.isAgg35 Try.sizeOf35 rfl rfl (by first | rfl | assumption) | exact Y.loadAggO 22 rfl Try.isAgg35 Try.sizeOf35 rfl rfl (by first | rfl | assumption) | exact Y.loadAggO 24 rfl Try.isAgg35 Try.sizeOf35 rfl rfl (by first | rfl | assumption) | exact Y.loadAggO 8 rfl Try.isAgg35 Try.sizeOf35 rfl rfl (by first | rfl | assumption)) ?_
  refine Jp.y 157 rfl (want_as rfl rfl rfl rfl) rfl rfl Kp.true (Y.struct [(0, _), (1, _), (2, _)] [_, _, _] rfl rfl places35 Try.zeroValue35 rfl) ?_
  refine Jp.y 158 rfl (want_as rfl rfl rfl rfl) rfl rfl Kp.true (Y.eqlS (xs := (EvP.mk 4 65792 2).cells.toArray) (ys := (EvP.mk 4 65792 2).cells.toArray) (r := true) rfl rfl rfl ev_guard ev_fields ev_stood (fun w => by rw [ev_eq, (evEq_iff _ _).2 rfl])) ?_
  refine Jp.y 159 rfl (want_all rfl) rfl rfl Kp.true (Y.pickT rfl rfl rfl) ?_
  refine Jp.y 160 rfl (want_all rfl) rfl rfl Kp.true (Y.move rfl rfl) ?_
  refine Jp.splitF 160 rfl (fun g160 => ?_) (fun g160 => ?_)
  · skip
    exact absurd g160 (by simp [kS])
  try simp only [decide_eq_false_iff_not, decide_eq_true_eq, Int.not_lt, Int.not_le, Bool.not_eq_false, Bool.not_eq_true, Bool.not_true, Bool.not_false, Bool.not_eq_true', Bool.not_eq_false', beq_eq_false_iff_ne, ne_eq, beq_iff_eq, bne_iff_ne, bne_eq_false_iff_eq, Classical.not_not] at g160
  refine Jp.y 161 rfl (want_as rfl rfl rfl rfl) rfl rfl Kp.true (by first | exact Y.fieldAddrP rfl rfl Try.underlying32 rfl Try.sizeOf2 (by decide) (show _ + 33 = _ from rfl) | exact Y.fieldAddr rfl rfl Try.underlying32 rfl Try.sizeOf2 (by decide)) ?_
  refine Jp.y 162 rfl (want_as rfl rfl rfl rfl) rfl rfl Kp.true (by first | exact Y.loadO 3 rfl Try.isAgg2 rfl rfl rfl | exact Y.loadO 15 rfl Try.isAgg2 rfl rfl rfl | exact Y.loadO 19 rfl Try.isAgg2 rfl rfl rfl | exact Y.loadO 4 rfl Try.isAgg2 rfl rfl rfl | exact Y.loadO 6 rfl Try.isAgg2 rfl rfl rfl | exact Y.loadO 10 rfl Try.isAgg2 rfl rfl rfl | exact Y.loadO 12 rfl Try.isAgg2 rfl rfl rfl | exact Y.loadO 14 rfl Try.isAgg2 rfl rfl rfl | exact Y.loadO 16 rfl Try.isAgg2 rfl rfl rfl | exact Y.loadO 18 rfl Try.isAgg2 rfl rfl rfl | exact Y.loadO 20 rfl Try.isAgg2 rfl rfl rfl | exact Y.loadO 22 rfl Try.isAgg2 rfl rfl rfl | exact Y.loadO 24 rfl Try.isAgg2 rfl rfl rfl | exact Y.loadO 8 rfl Try.isAgg2 rfl rfl rfl) ?_
  refine Jp.y 163 rfl (want_as rfl rfl rfl rfl) rfl rfl Kp.true (Y.eql rfl rfl rfl) ?_
  refine Jp.y 164 rfl (want_all rfl) rfl rfl Kp.true (Y.pickT rfl rfl rfl) ?_
  refine Jp.y 165 rfl (want_all rfl) rfl rfl Kp.true (Y.move rfl rfl) ?_
  refine Jp.splitF 165 rfl (fun g165 => ?_) (fun g165 => ?_)
  · skip
    exact absurd g165 (by simp [kS])
  try simp only [decide_eq_false_iff_not, decide_eq_true_eq, Int.not_lt, Int.not_le, Bool.not_eq_false, Bool.not_eq_true, Bool.not_true, Bool.not_false, Bool.not_eq_true', Bool.not_eq_false', beq_eq_false_iff_ne, ne_eq, beq_iff_eq, bne_iff_ne, bne_eq_false_iff_eq, Classical.not_not] at g165
  refine Jp.y 166 rfl (want_as rfl rfl rfl rfl) rfl rfl Kp.true (by first | exact Y.loadAggO 3 rfl Try.isAgg35 Try.sizeOf35 rfl rfl (by first | rfl | assumption) | exact Y.loadAggO 15 rfl Try.isAgg35 Try.sizeOf35 rfl rfl (by first | rfl | assumption) | exact Y.loadAggO 19 rfl Try.isAgg35 Try.sizeOf35 rfl rfl (by first | rfl | assumption) | exact Y.loadAggO 4 rfl Try.isAgg35 Try.sizeOf35 rfl rfl (by first | rfl | assumption) | exact Y.loadAggO 6 rfl Try.isAgg35 Try.sizeOf35 rfl rfl (by first | rfl | assumption) | exact Y.loadAggO 10 rfl Try.isAgg35 Try.sizeOf35 rfl rfl (by first | rfl | assumption) | exact Y.loadAggO 12 rfl Try.isAgg35 Try.sizeOf35 rfl rfl (by first | rfl | assumption) | exact Y.loadAggO 14 rfl Try.isAgg35 Try.sizeOf35 rfl rfl (by first | rfl | assumption) | exact Y.loadAggO 16 rfl Try.isAgg35 Try.sizeOf35 rfl rfl (by first | rfl | assumption) | exact Y.loadAggO 18 rfl Try.isAgg35 Try.sizeOf35 rfl rfl (by first | rfl | assumption) | exact Y.loadAggO 20 rfl Try.isAgg35 Try.sizeOf35 rfl rfl (by first | rfl | assumption) | exact Y.loadAggO 22 rfl Try.isAgg35 Try.sizeOf35 rfl rfl (by first | rfl | assumption) | exact Y.loadAggO 24 rfl Try.isAgg35 Try.sizeOf35 rfl rfl (by first | rfl | assumption) | exact Y.loadAggO 8 rfl Try.isAgg35 Try.sizeOf35 rfl rfl (by first | rfl | assumption)) ?_
  refine Jp.y 167 rfl (want_as rfl rfl rfl rfl) rfl rfl Kp.true (Y.struct [(0, _), (1, _)] [_, _, _] rfl rfl places35 Try.zeroValue35 rfl) ?_
  refine Jp.y 168 rfl (want_as rfl rfl rfl rfl) rfl rfl Kp.true (Y.eqlS (xs := (EvP.mk 5 4112 0).cells.toArray) (ys := (EvP.mk 5 4112 0).cells.toArray) (r := true) rfl rfl rfl ev_guard ev_fields ev_stood (fun w => by rw [ev_eq, (evEq_iff _ _).2 rfl])) ?_
  refine Jp.y 169 rfl (want_all rfl) rfl rfl Kp.true (Y.pickT rfl rfl rfl) ?_
  refine Jp.y 170 rfl (want_all rfl) rfl rfl Kp.true (Y.move rfl rfl) ?_
  refine Jp.splitF 170 rfl (fun g170 => ?_) (fun g170 => ?_)
  · skip
    exact absurd g170 (by simp [kS])
  try simp only [decide_eq_false_iff_not, decide_eq_true_eq, Int.not_lt, Int.not_le, Bool.not_eq_false, Bool.not_eq_true, Bool.not_true, Bool.not_false, Bool.not_eq_true', Bool.not_eq_false', beq_eq_false_iff_ne, ne_eq, beq_iff_eq, bne_iff_ne, bne_eq_false_iff_eq, Classical.not_not] at g170
  refine Jp.y 171 rfl (want_as rfl rfl rfl rfl) rfl rfl Kp.true (by first | exact Y.loadAggO 3 rfl Try.isAgg35 Try.sizeOf35 rfl rfl (by first | rfl | assumption) | exact Y.loadAggO 15 rfl Try.isAgg35 Try.sizeOf35 rfl rfl (by first | rfl | assumption) | exact Y.loadAggO 19 rfl Try.isAgg35 Try.sizeOf35 rfl rfl (by first | rfl | assumption) | exact Y.loadAggO 4 rfl Try.isAgg35 Try.sizeOf35 rfl rfl (by first | rfl | assumption) | exact Y.loadAggO 6 rfl Try.isAgg35 Try.sizeOf35 rfl rfl (by first | rfl | assumption) | exact Y.loadAggO 10 rfl Try.isAgg35 Try.sizeOf35 rfl rfl (by first | rfl | assumption) | exact Y.loadAggO 12 rfl Try.isAgg35 Try.sizeOf35 rfl rfl (by first | rfl | assumption) | exact Y.loadAggO 14 rfl Try.isAgg35 Try.sizeOf35 rfl rfl (by first | rfl | assumption) | exact Y.loadAggO 16 rfl Try.isAgg35 Try.sizeOf35 rfl rfl (by first | rfl | assumption) | exact Y.loadAggO 18 rfl Try.isAgg35 Try.sizeOf35 rfl rfl (by first | rfl | assumption) | exact Y.loadAggO 20 rfl Try.isAgg35 Try.sizeOf35 rfl rfl (by first | rfl | assumption) | exact Y.loadAggO 22 rfl Try.isAgg35 Try.sizeOf35 rfl rfl (by first | rfl | assumption) | exact Y.loadAggO 24 rfl Try.isAgg35 Try.sizeOf35 rfl rfl (by first | rfl | assumption) | exact Y.loadAggO 8 rfl Try.isAgg35 Try.sizeOf35 rfl rfl (by first | rfl | assumption)) ?_
  refine Jp.y 172 rfl (want_as rfl rfl rfl rfl) rfl rfl Kp.true (Y.struct [(0, _), (1, _)] [_, _, _] rfl rfl places35 Try.zeroValue35 rfl) ?_
  refine Jp.y 173 rfl (want_as rfl rfl rfl rfl) rfl rfl Kp.true (Y.eqlS (xs := (EvP.mk 6 4116 0).cells.toArray) (ys := (EvP.mk 6 4116 0).cells.toArray) (r := true) rfl rfl rfl ev_guard ev_fields ev_stood (fun w => by rw [ev_eq, (evEq_iff _ _).2 rfl])) ?_
  refine Jp.y 174 rfl (want_all rfl) rfl rfl Kp.true (Y.pickT rfl rfl rfl) ?_
  refine Jp.y 175 rfl (want_all rfl) rfl rfl Kp.true (Y.move rfl rfl) ?_
  refine Jp.splitF 175 rfl (fun g175 => ?_) (fun g175 => ?_)
  · skip
    exact absurd g175 (by simp [kS])
  try simp only [decide_eq_false_iff_not, decide_eq_true_eq, Int.not_lt, Int.not_le, Bool.not_eq_false, Bool.not_eq_true, Bool.not_true, Bool.not_false, Bool.not_eq_true', Bool.not_eq_false', beq_eq_false_iff_ne, ne_eq, beq_iff_eq, bne_iff_ne, bne_eq_false_iff_eq, Classical.not_not] at g175
  refine Jp.y 176 rfl (want_as rfl rfl rfl rfl) rfl rfl Kp.true (by first | exact Y.loadAggO 3 rfl Try.isAgg35 Try.sizeOf35 rfl rfl (by first | rfl | assumption) | exact Y.loadAggO 15 rfl Try.isAgg35 Try.sizeOf35 rfl rfl (by first | rfl | assumption) | exact Y.loadAggO 19 rfl Try.isAgg35 Try.sizeOf35 rfl rfl (by first | rfl | assumption) | exact Y.loadAggO 4 rfl Try.isAgg35 Try.sizeOf35 rfl rfl (by first | rfl | assumption) | exact Y.loadAggO 6 rfl Try.isAgg35 Try.sizeOf35 rfl rfl (by first | rfl | assumption) | exact Y.loadAggO 10 rfl Try.isAgg35 Try.sizeOf35 rfl rfl (by first | rfl | assumption) | exact Y.loadAggO 12 rfl Try.isAgg35 Try.sizeOf35 rfl rfl (by first | rfl | assumption) | exact Y.loadAggO 14 rfl Try.isAgg35 Try.sizeOf35 rfl rfl (by first | rfl | assumption) | exact Y.loadAggO 16 rfl Try.isAgg35 Try.sizeOf35 rfl rfl (by first | rfl | assumption) | exact Y.loadAggO 18 rfl Try.isAgg35 Try.sizeOf35 rfl rfl (by first | rfl | assumption) | exact Y.loadAggO 20 rfl Try.isAgg35 Try.sizeOf35 rfl rfl (by first | rfl | assumption) | exact Y.loadAggO 22 rfl Try.isAgg35 Try.sizeOf35 rfl rfl (by first | rfl | assumption) | exact Y.loadAggO 24 rfl Try.isAgg35 Try.sizeOf35 rfl rfl (by first | rfl | assumption) | exact Y.loadAggO 8 rfl Try.isAgg35 Try.sizeOf35 rfl rfl (by first | rfl | assumption)) ?_
  refine Jp.y 177 rfl (want_as rfl rfl rfl rfl) rfl rfl Kp.true (Y.struct [] [_, _, _] rfl rfl places35 Try.zeroValue35 rfl) ?_
  refine Jp.y 178 rfl (want_as rfl rfl rfl rfl) rfl rfl Kp.true (Y.eqlS (xs := (EvP.mk 0 0 0).cells.toArray) (ys := (EvP.mk 0 0 0).cells.toArray) (r := true) rfl rfl rfl ev_guard ev_fields ev_stood (fun w => by rw [ev_eq, (evEq_iff _ _).2 rfl])) ?_
  refine Jp.y 179 rfl (want_all rfl) rfl rfl Kp.true (Y.pickT rfl rfl rfl) ?_
  refine Jp.y 180 rfl (want_all rfl) rfl rfl Kp.true (Y.move rfl rfl) ?_
  refine Jp.splitF 180 rfl (fun g180 => ?_) (fun g180 => ?_)
  · skip
    exact absurd g180 (by simp [kS])
  try simp only [decide_eq_false_iff_not, decide_eq_true_eq, Int.not_lt, Int.not_le, Bool.not_eq_false, Bool.not_eq_true, Bool.not_true, Bool.not_false, Bool.not_eq_true', Bool.not_eq_false', beq_eq_false_iff_ne, ne_eq, beq_iff_eq, bne_iff_ne, bne_eq_false_iff_eq, Classical.not_not] at g180
  refine Jp.y 181 rfl (want_as rfl rfl rfl rfl) rfl rfl Kp.true (by first | exact Y.fieldAddrP rfl rfl Try.underlying32 rfl Try.sizeOf30 (by decide) (show _ + 0 = _ from rfl) | exact Y.fieldAddr rfl rfl Try.underlying32 rfl Try.sizeOf30 (by decide)) ?_
  refine Jp.y 182 rfl (want_as rfl rfl rfl rfl) rfl rfl Kp.true (Y.indexArrP rfl rfl rfl Try.underlying30 Try.sizeOf25 (by first | decide | omega) (by first | decide | omega) rfl) ?_
  refine Jp.y 183 rfl (want_as rfl rfl rfl rfl) rfl rfl Kp.true (by first | exact Y.loadO 3 rfl Try.isAgg25 rfl rfl rfl | exact Y.loadO 15 rfl Try.isAgg25 rfl rfl rfl | exact Y.loadO 19 rfl Try.isAgg25 rfl rfl rfl | exact Y.loadO 4 rfl Try.isAgg25 rfl rfl rfl | exact Y.loadO 6 rfl Try.isAgg25 rfl rfl rfl | exact Y.loadO 10 rfl Try.isAgg25 rfl rfl rfl | exact Y.loadO 12 rfl Try.isAgg25 rfl rfl rfl | exact Y.loadO 14 rfl Try.isAgg25 rfl rfl rfl | exact Y.loadO 16 rfl Try.isAgg25 rfl rfl rfl | exact Y.loadO 18 rfl Try.isAgg25 rfl rfl rfl | exact Y.loadO 20 rfl Try.isAgg25 rfl rfl rfl | exact Y.loadO 22 rfl Try.isAgg25 rfl rfl rfl | exact Y.loadO 24 rfl Try.isAgg25 rfl rfl rfl | exact Y.loadO 8 rfl Try.isAgg25 rfl rfl rfl) ?_
  refine Jp.y 184 rfl (want_as rfl rfl rfl rfl) rfl rfl Kp.true (Y.eql rfl rfl rfl) ?_
  refine Jp.y 185 rfl (want_all rfl) rfl rfl Kp.true (Y.pickT rfl rfl rfl) ?_
  refine Jp.y 186 rfl (want_all rfl) rfl rfl Kp.true (Y.move rfl rfl) ?_
  refine Jp.splitF 186 rfl (fun g186 => ?_) (fun g186 => ?_)
  · skip
    exact absurd g186 (by simp [kS])
  try simp only [decide_eq_false_iff_not, decide_eq_true_eq, Int.not_lt, Int.not_le, Bool.not_eq_false, Bool.not_eq_true, Bool.not_true, Bool.not_false, Bool.not_eq_true', Bool.not_eq_false', beq_eq_false_iff_ne, ne_eq, beq_iff_eq, bne_iff_ne, bne_eq_false_iff_eq, Classical.not_not] at g186
  refine Jp.y 187 rfl (want_as rfl rfl rfl rfl) rfl rfl Kp.true (by first | exact Y.loadAggO 3 rfl Try.isAgg35 Try.sizeOf35 rfl rfl (by first | rfl | assumption) | exact Y.loadAggO 15 rfl Try.isAgg35 Try.sizeOf35 rfl rfl (by first | rfl | assumption) | exact Y.loadAggO 19 rfl Try.isAgg35 Try.sizeOf35 rfl rfl (by first | rfl | assumption) | exact Y.loadAggO 4 rfl Try.isAgg35 Try.sizeOf35 rfl rfl (by first | rfl | assumption) | exact Y.loadAggO 6 rfl Try.isAgg35 Try.sizeOf35 rfl rfl (by first | rfl | assumption) | exact Y.loadAggO 10 rfl Try.isAgg35 Try.sizeOf35 rfl rfl (by first | rfl | assumption) | exact Y.loadAggO 12 rfl Try.isAgg35 Try.sizeOf35 rfl rfl (by first | rfl | assumption) | exact Y.loadAggO 14 rfl Try.isAgg35 Try.sizeOf35 rfl rfl (by first | rfl | assumption) | exact Y.loadAggO 16 rfl Try.isAgg35 Try.sizeOf35 rfl rfl (by first | rfl | assumption) | exact Y.loadAggO 18 rfl Try.isAgg35 Try.sizeOf35 rfl rfl (by first | rfl | assumption) | exact Y.loadAggO 20 rfl Try.isAgg35 Try.sizeOf35 rfl rfl (by first | rfl | assumption) | exact Y.loadAggO 22 rfl Try.isAgg35 Try.sizeOf35 rfl rfl (by first | rfl | assumption) | exact Y.loadAggO 24 rfl Try.isAgg35 Try.sizeOf35 rfl rfl (by first | rfl | assumption) | exact Y.loadAggO 8 rfl Try.isAgg35 Try.sizeOf35 rfl rfl (by first | rfl | assumption)) ?_
  refine Jp.y 188 rfl (want_as rfl rfl rfl rfl) rfl rfl Kp.true (Y.struct [(0, _), (1, _), (2, _)] [_, _, _] rfl rfl places35 Try.zeroValue35 rfl) ?_
  refine Jp.y 189 rfl (want_as rfl rfl rfl rfl) rfl rfl Kp.true (Y.eqlS (xs := (EvP.mk 1 65536 2).cells.toArray) (ys := (EvP.mk 1 65536 2).cells.toArray) (r := true) rfl rfl rfl ev_guard ev_fields ev_stood (fun w => by rw [ev_eq, (evEq_iff _ _).2 rfl])) ?_
  refine Jp.y 190 rfl (want_all rfl) rfl rfl Kp.true (Y.pickT rfl rfl rfl) ?_
  refine Jp.y 191 rfl (want_all rfl) rfl rfl Kp.true (Y.move rfl rfl) ?_
  refine Jp.splitF 191 rfl (fun g191 => ?_) (fun g191 => ?_)
  · skip
    exact absurd g191 (by simp [kS])
  try simp only [decide_eq_false_iff_not, decide_eq_true_eq, Int.not_lt, Int.not_le, Bool.not_eq_false, Bool.not_eq_true, Bool.not_true, Bool.not_false, Bool.not_eq_true', Bool.not_eq_false', beq_eq_false_iff_ne, ne_eq, beq_iff_eq, bne_iff_ne, bne_eq_false_iff_eq, Classical.not_not] at g191
  refine Jp.y 192 rfl (want_as rfl rfl rfl rfl) rfl rfl Kp.true (by first | exact Y.loadAggO 3 rfl Try.isAgg35 Try.sizeOf35 rfl rfl (by first | rfl | assumption) | exact Y.loadAggO 15 rfl Try.isAgg35 Try.sizeOf35 rfl rfl (by first | rfl | assumption) | exact Y.loadAggO 19 rfl Try.isAgg35 Try.sizeOf35 rfl rfl (by first | rfl | assumption) | exact Y.loadAggO 4 rfl Try.isAgg35 Try.sizeOf35 rfl rfl (by first | rfl | assumption) | exact Y.loadAggO 6 rfl Try.isAgg35 Try.sizeOf35 rfl rfl (by first | rfl | assumption) | exact Y.loadAggO 10 rfl Try.isAgg35 Try.sizeOf35 rfl rfl (by first | rfl | assumption) | exact Y.loadAggO 12 rfl Try.isAgg35 Try.sizeOf35 rfl rfl (by first | rfl | assumption) | exact Y.loadAggO 14 rfl Try.isAgg35 Try.sizeOf35 rfl rfl (by first | rfl | assumption) | exact Y.loadAggO 16 rfl Try.isAgg35 Try.sizeOf35 rfl rfl (by first | rfl | assumption) | exact Y.loadAggO 18 rfl Try.isAgg35 Try.sizeOf35 rfl rfl (by first | rfl | assumption) | exact Y.loadAggO 20 rfl Try.isAgg35 Try.sizeOf35 rfl rfl (by first | rfl | assumption) | exact Y.loadAggO 22 rfl Try.isAgg35 Try.sizeOf35 rfl rfl (by first | rfl | assumption) | exact Y.loadAggO 24 rfl Try.isAgg35 Try.sizeOf35 rfl rfl (by first | rfl | assumption) | exact Y.loadAggO 8 rfl Try.isAgg35 Try.sizeOf35 rfl rfl (by first | rfl | assumption)) ?_
  refine Jp.y 193 rfl (want_as rfl rfl rfl rfl) rfl rfl Kp.true (Y.struct [(0, _), (1, _), (2, _)] [_, _, _] rfl rfl places35 Try.zeroValue35 rfl) ?_
  refine Jp.y 194 rfl (want_as rfl rfl rfl rfl) rfl rfl Kp.true (Y.eqlS (xs := (EvP.mk 1 4097 3).cells.toArray) (ys := (EvP.mk 1 4097 3).cells.toArray) (r := true) rfl rfl rfl ev_guard ev_fields ev_stood (fun w => by rw [ev_eq, (evEq_iff _ _).2 rfl])) ?_
  refine Jp.y 195 rfl (want_all rfl) rfl rfl Kp.true (Y.pickT rfl rfl rfl) ?_
  refine Jp.y 196 rfl (want_all rfl) rfl rfl Kp.true (Y.move rfl rfl) ?_
  refine Jp.splitF 196 rfl (fun g196 => ?_) (fun g196 => ?_)
  · skip
    exact absurd g196 (by simp [kS])
  try simp only [decide_eq_false_iff_not, decide_eq_true_eq, Int.not_lt, Int.not_le, Bool.not_eq_false, Bool.not_eq_true, Bool.not_true, Bool.not_false, Bool.not_eq_true', Bool.not_eq_false', beq_eq_false_iff_ne, ne_eq, beq_iff_eq, bne_iff_ne, bne_eq_false_iff_eq, Classical.not_not] at g196
  refine Jp.y 197 rfl (want_as rfl rfl rfl rfl) rfl rfl Kp.true (by first | exact Y.loadAggO 3 rfl Try.isAgg35 Try.sizeOf35 rfl rfl (by first | rfl | assumption) | exact Y.loadAggO 15 rfl Try.isAgg35 Try.sizeOf35 rfl rfl (by first | rfl | assumption) | exact Y.loadAggO 19 rfl Try.isAgg35 Try.sizeOf35 rfl rfl (by first | rfl | assumption) | exact Y.loadAggO 4 rfl Try.isAgg35 Try.sizeOf35 rfl rfl (by first | rfl | assumption) | exact Y.loadAggO 6 rfl Try.isAgg35 Try.sizeOf35 rfl rfl (by first | rfl | assumption) | exact Y.loadAggO 10 rfl Try.isAgg35 Try.sizeOf35 rfl rfl (by first | rfl | assumption) | exact Y.loadAggO 12 rfl Try.isAgg35 Try.sizeOf35 rfl rfl (by first | rfl | assumption) | exact Y.loadAggO 14 rfl Try.isAgg35 Try.sizeOf35 rfl rfl (by first | rfl | assumption) | exact Y.loadAggO 16 rfl Try.isAgg35 Try.sizeOf35 rfl rfl (by first | rfl | assumption) | exact Y.loadAggO 18 rfl Try.isAgg35 Try.sizeOf35 rfl rfl (by first | rfl | assumption) | exact Y.loadAggO 20 rfl Try.isAgg35 Try.sizeOf35 rfl rfl (by first | rfl | assumption) | exact Y.loadAggO 22 rfl Try.isAgg35 Try.sizeOf35 rfl rfl (by first | rfl | assumption) | exact Y.loadAggO 24 rfl Try.isAgg35 Try.sizeOf35 rfl rfl (by first | rfl | assumption) | exact Y.loadAggO 8 rfl Try.isAgg35 Try.sizeOf35 rfl rfl (by first | rfl | assumption)) ?_
  refine Jp.y 198 rfl (want_as rfl rfl rfl rfl) rfl rfl Kp.true (Y.struct [(0, _), (1, _)] [_, _, _] rfl rfl places35 Try.zeroValue35 rfl) ?_
  refine Jp.y 199 rfl (want_as rfl rfl rfl rfl) rfl rfl Kp.true (Y.eqlS (xs := (EvP.mk 7 4102 0).cells.toArray) (ys := (EvP.mk 7 4102 0).cells.toArray) (r := true) rfl rfl rfl ev_guard ev_fields ev_stood (fun w => by rw [ev_eq, (evEq_iff _ _).2 rfl])) ?_
  refine Jp.y 200 rfl (want_all rfl) rfl rfl Kp.true (Y.pickT rfl rfl rfl) ?_
  refine Jp.y 0 rfl (want_all rfl) rfl rfl Kp.true (Y.assign rfl rfl) ?_
  refine Jp.done hK31 ?_
  refine Cd.ret [] rfl (res1 rfl rfl) trivial ⟨by simp [kS], rfl⟩
end Go.Proofs.Ytkjeidoplonkjaa
