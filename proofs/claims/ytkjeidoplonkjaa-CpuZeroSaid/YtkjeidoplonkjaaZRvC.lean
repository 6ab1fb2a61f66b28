import Derived.Test.YtkjeidoplonkjaaZRvB
import Derived.Test.YtkjeidoplonkjaaZMemX1
set_option linter.unusedVariables false
set_option linter.unusedSimpArgs false
set_option maxRecDepth 100000
namespace Go.Proofs.Ytkjeidoplonkjaa
open Go
def endsP (op : Nat) : Bool := op == 0 || (decide (3 ≤ op) && decide (op ≤ 10)) || (decide (47 ≤ op) && decide (op ≤ 49))
structure EvP where
  kind : Nat
  addr : Nat
  why : Int
def EvP.cells (e : EvP) : List Value := [.int .i64 (e.kind : Int), .int .u32 (e.addr : Int), .int .i64 e.why]
def noIns : InsP := ⟨0, 0, 0, 0, 0⟩
def noEv : EvP := ⟨0, 0, 0⟩
def fetchP (M : MemG) (pc : Nat) : InsP × EvP :=
  if (loadM M pc 4 4).2 = 0 then (if (decP (loadM M pc 4 4).1).op = 0 then (noIns, ⟨2, pc, 0⟩) else (decP (loadM M pc 4 4).1, noEv)) else (noIns, ⟨1, pc, (loadM M pc 4 4).2⟩)
theorem fetch_spec (b : Nat) (M : MemG) (pc : Nat) (hpc : pc < 4294967296) (hl : (loadM M pc 4 4).1 < 4294967296) : Spec Try.prog 33 #[.pointer (some ⟨b, 0, none⟩), .int .u32 pc] (fun _ => True) [(0, MemO b M)]
    (fun ρ ρ' v L => ρ' = ρ ∧ v = .tuple #[.agg (fetchP M pc).1.cells.toArray, .agg (fetchP M pc).2.cells.toArray] ∧ L = [(0, MemO b M)]) := by
  refine Spec.of 31 Try.func33 rfl Try.ntmps33 [(0, _), (1, _)] rfl rfl ?_
  intro cx ρ hr h0
  obtain ⟨F, hF⟩ : ∃ F, fetchP M pc = F := ⟨_, rfl⟩
  rw [hF]
  unfold fetchP at hF
  have hL := load_spec b M pc 4 4 hpc
  obtain ⟨w, hw⟩ : ∃ w, (loadM M pc 4 4).1 = w := ⟨_, rfl⟩
  obtain ⟨f, hf⟩ : ∃ f, (loadM M pc 4 4).2 = f := ⟨_, rfl⟩
  rw [hw, hf] at hF hL
  rw [hw] at hl
  have hD := decode_spec w hl
  obtain ⟨i, hi⟩ : ∃ i, decP w = i := ⟨_, rfl⟩
  rw [hi] at hF hD
  refine Cd.seq fun K1 hK1 => ?_
  refine Cd.plain [(0, false), (1, false)] rfl rfl ?_
  refine Jp.alloc 4 4 rfl (want_all rfl) rfl rfl rfl Try.zeroValue28 fun b4 => ⟨Kp.true, ?_⟩
  refine Jp.alloc 5 5 rfl (want_all rfl) rfl rfl rfl Try.zeroValue35 fun b5 => ⟨Kp.true, ?_⟩
  refine Jp.done hK1 ?_
  refine Cd.seq fun K2 hK2 => ?_
  refine Cd.plain [(0, false), (1, false), (2, false), (3, false), (4, false), (5, false), (6, false), (7, false)] rfl rfl ?_
  refine Jp.y 10 rfl (want_all rfl) rfl rfl Kp.true (Y.move rfl rfl) ?_
  refine Jp.y 11 rfl (want_all rfl) rfl rfl Kp.true (Y.move rfl rfl) ?_
  refine Jp.call [0] [0] hL 12 rfl (want_all rfl) rfl rfl (Runs.fn rfl Try.call27 rfl) (by decide) (by decide) rfl trivial ?_
  rintro v1 ρ1 L1 ⟨rfl, rfl, rfl⟩
  refine ⟨rfl, fun hle1 => ⟨Kp.true, ?_⟩⟩
  refine Jp.y 9 rfl (want_all rfl) rfl rfl Kp.true (Y.move rfl rfl) ?_
  refine Jp.y 13 rfl (want_all rfl) rfl rfl Kp.true (Y.extract rfl rfl rfl) ?_
  refine Jp.y 14 rfl (want_all rfl) rfl rfl Kp.true (Y.extract rfl rfl rfl) ?_
  refine Jp.y 6 rfl (want_all rfl) rfl rfl Kp.true (Y.assign rfl rfl) ?_
  refine Jp.y 7 rfl (want_all rfl) rfl rfl Kp.true (Y.assign rfl rfl) ?_
  refine Jp.done hK2 ?_
  refine Cd.seq fun K3 hK3 => ?_
  refine Cd.seq fun K4 hK4 => ?_
  refine Cd.plain [(0, false), (1, false)] rfl rfl ?_
  refine Jp.y 15 rfl (want_all rfl) rfl rfl Kp.true (Y.move rfl rfl) ?_
  refine Jp.y 16 rfl (want_all rfl) rfl rfl Kp.true (Y.neq rfl rfl rfl) ?_
  refine Jp.done hK4 ?_
  refine Cd.cond rfl (fun ga => ?_) (fun ga => ?_)
  · simp at ga
    rw [if_neg ga] at hF
    subst hF
    refine Cd.seq fun K5 hK5 => ?_
    refine Cd.plain [(0, false), (1, false), (2, false), (3, false), (4, false), (5, false)] rfl rfl ?_
    refine Jp.y 17 rfl (want_all rfl) rfl rfl Kp.true (Y.struct [] [_, _, _, _, _] rfl rfl places28 Try.zeroValue28 rfl) ?_
    refine Jp.y 18 rfl (want_all rfl) rfl rfl Kp.true (Y.move rfl rfl) ?_
    refine Jp.y 19 rfl (want_all rfl) rfl rfl Kp.true (Y.move rfl rfl) ?_
    refine Jp.y 20 rfl (want_all rfl) rfl rfl Kp.true (Y.struct [(0, _), (1, _), (2, _)] [_, _, _] rfl rfl places35 Try.zeroValue35 rfl) ?_
    first | refine Jp.storeAgg 4 rfl (want_all rfl) rfl rfl Try.sizeOf28 rfl rfl rfl rfl rfl rfl (fun k _ _ => noFr0 k) Kp.true ?_ | refine Jp.storeAgg 5 rfl (want_all rfl) rfl rfl Try.sizeOf28 rfl rfl rfl rfl rfl rfl (fun k _ _ => noFr0 k) Kp.true ?_
    first | refine Jp.storeAgg 4 rfl (want_all rfl) rfl rfl Try.sizeOf35 rfl rfl rfl rfl rfl rfl (fun k _ _ => noFr0 k) Kp.true ?_ | refine Jp.storeAgg 5 rfl (want_all rfl) rfl rfl Try.sizeOf35 rfl rfl rfl rfl rfl rfl (fun k _ _ => noFr0 k) Kp.true ?_
    refine Jp.done hK5 ?_
    refine Cd.ret [(0, _)] rfl (by first | exact resCC 4 5 rfl rfl rfl Try.isAgg28 Try.sizeOf28 Try.isAgg35 Try.sizeOf35 rfl rfl rfl rfl | exact resCC 5 4 rfl rfl rfl Try.isAgg28 Try.sizeOf28 Try.isAgg35 Try.sizeOf35 rfl rfl rfl rfl) ⟨rfl, trivial⟩ ⟨rfl, rfl, rfl⟩
  · simp at ga
    rw [if_pos ga] at hF
    refine Cd.skip hK3 ?_
    refine Cd.seq fun K6 hK6 => ?_
    refine Cd.plain [(0, false), (1, false), (2, false), (3, false)] rfl rfl ?_
    refine Jp.y 21 rfl (want_all rfl) rfl rfl Kp.true (Y.move rfl rfl) ?_
    refine Jp.call [] [] hD 22 rfl (want_all rfl) rfl rfl (Runs.fn rfl Try.call60 rfl) (by decide) (by decide) rfl trivial ?_
    rintro v2 ρ2 L2 ⟨rfl, rfl, rfl⟩
    refine ⟨rfl, fun hle2 => ⟨Kp.true, ?_⟩⟩
    obtain ⟨op, rd, r1, r2, imm⟩ := i
    refine Jp.alloc 8 8 rfl (want_all rfl) rfl rfl rfl Try.zeroValue28 fun b8 => ⟨Kp.true, ?_⟩
    first | refine Jp.storeAgg 4 rfl (want_all rfl) rfl rfl Try.sizeOf28 rfl rfl rfl rfl rfl rfl (fun k _ _ => noFr0 k) Kp.true ?_ | refine Jp.storeAgg 5 rfl (want_all rfl) rfl rfl Try.sizeOf28 rfl rfl rfl rfl rfl rfl (fun k _ _ => noFr0 k) Kp.true ?_ | refine Jp.storeAgg 8 rfl (want_all rfl) rfl rfl Try.sizeOf28 rfl rfl rfl rfl rfl rfl (fun k _ _ => noFr0 k) Kp.true ?_
    refine Jp.done hK6 ?_
    refine Cd.seq fun K7 hK7 => ?_
    refine Cd.seq fun K8 hK8 => ?_
    refine Cd.plain [(0, false), (1, false), (2, false)] rfl rfl ?_
    refine Jp.y 23 rfl (want_all rfl) rfl rfl Kp.true (by first | exact Y.fieldAddrP rfl rfl Try.underlying28 rfl Try.sizeOf3 (by decide) (show _ + 0 = _ from rfl) | exact Y.fieldAddr rfl rfl Try.underlying28 rfl Try.sizeOf3 (by decide)) ?_
    refine Jp.y 24 rfl (want_all rfl) rfl rfl Kp.true (by first | exact Y.loadO 4 rfl Try.isAgg3 rfl rfl rfl | exact Y.loadO 5 rfl Try.isAgg3 rfl rfl rfl | exact Y.loadO 8 rfl Try.isAgg3 rfl rfl rfl) ?_
    refine Jp.y 25 rfl (want_all rfl) rfl rfl Kp.true (Y.eql rfl rfl rfl) ?_
    refine Jp.done hK8 ?_
    refine Cd.cond rfl (fun gb => ?_) (fun gb => ?_)
    · rw [if_pos (by simpa using gb)] at hF
      subst hF
      refine Cd.seq fun K9 hK9 => ?_
      refine Cd.plain [(0, false), (1, false), (2, false), (3, false), (4, false)] rfl rfl ?_
      refine Jp.y 26 rfl (want_all rfl) rfl rfl Kp.true (Y.struct [] [_, _, _, _, _] rfl rfl places28 Try.zeroValue28 rfl) ?_
      refine Jp.y 27 rfl (want_all rfl) rfl rfl Kp.true (Y.move rfl rfl) ?_
      refine Jp.y 28 rfl (want_all rfl) rfl rfl Kp.true (Y.struct [(0, _), (1, _)] [_, _, _] rfl rfl places35 Try.zeroValue35 rfl) ?_
      first | refine Jp.storeAgg 4 rfl (want_all rfl) rfl rfl Try.sizeOf28 rfl rfl rfl rfl rfl rfl (fun k _ _ => noFr0 k) Kp.true ?_ | refine Jp.storeAgg 5 rfl (want_all rfl) rfl rfl Try.sizeOf28 rfl rfl rfl rfl rfl rfl (fun k _ _ => noFr0 k) Kp.true ?_ | refine Jp.storeAgg 8 rfl (want_all rfl) rfl rfl Try.sizeOf28 rfl rfl rfl rfl rfl rfl (fun k _ _ => noFr0 k) Kp.true ?_
      first | refine Jp.storeAgg 4 rfl (want_all rfl) rfl rfl Try.sizeOf35 rfl rfl rfl rfl rfl rfl (fun k _ _ => noFr0 k) Kp.true ?_ | refine Jp.storeAgg 5 rfl (want_all rfl) rfl rfl Try.sizeOf35 rfl rfl rfl rfl rfl rfl (fun k _ _ => noFr0 k) Kp.true ?_ | refine Jp.storeAgg 8 rfl (want_all rfl) rfl rfl Try.sizeOf35 rfl rfl rfl rfl rfl rfl (fun k _ _ => noFr0 k) Kp.true ?_
      refine Jp.done hK9 ?_
      refine Cd.ret [(0, _)] rfl (by first | exact resCC 4 5 rfl rfl rfl Try.isAgg28 Try.sizeOf28 Try.isAgg35 Try.sizeOf35 rfl rfl rfl rfl | exact resCC 4 8 rfl rfl rfl Try.isAgg28 Try.sizeOf28 Try.isAgg35 Try.sizeOf35 rfl rfl rfl rfl | exact resCC 5 4 rfl rfl rfl Try.isAgg28 Try.sizeOf28 Try.isAgg35 Try.sizeOf35 rfl rfl rfl rfl | exact resCC 5 8 rfl rfl rfl Try.isAgg28 Try.sizeOf28 Try.isAgg35 Try.sizeOf35 rfl rfl rfl rfl | exact resCC 8 4 rfl rfl rfl Try.isAgg28 Try.sizeOf28 Try.isAgg35 Try.sizeOf35 rfl rfl rfl rfl | exact resCC 8 5 rfl rfl rfl Try.isAgg28 Try.sizeOf28 Try.isAgg35 Try.sizeOf35 rfl rfl rfl rfl) ⟨rfl, trivial⟩ ⟨rfl, rfl, rfl⟩
    · rw [if_neg (by simpa using gb)] at hF
      subst hF
      refine Cd.skip hK7 ?_
      refine Cd.seq fun K10 hK10 => ?_
      refine Cd.plain [(0, false), (1, false), (2, false), (3, false)] rfl rfl ?_
      refine Jp.y 29 rfl (want_all rfl) rfl rfl Kp.true (by first | exact Y.loadAggO 4 rfl Try.isAgg28 Try.sizeOf28 rfl rfl rfl | exact Y.loadAggO 5 rfl Try.isAgg28 Try.sizeOf28 rfl rfl rfl | exact Y.loadAggO 8 rfl Try.isAgg28 Try.sizeOf28 rfl rfl rfl) ?_
      refine Jp.y 30 rfl (want_all rfl) rfl rfl Kp.true (Y.struct [] [_, _, _] rfl rfl places35 Try.zeroValue35 rfl) ?_
      first | refine Jp.storeAgg 4 rfl (want_all rfl) rfl rfl Try.sizeOf28 rfl rfl rfl rfl rfl rfl (fun k _ _ => noFr0 k) Kp.true ?_ | refine Jp.storeAgg 5 rfl (want_all rfl) rfl rfl Try.sizeOf28 rfl rfl rfl rfl rfl rfl (fun k _ _ => noFr0 k) Kp.true ?_ | refine Jp.storeAgg 8 rfl (want_all rfl) rfl rfl Try.sizeOf28 rfl rfl rfl rfl rfl rfl (fun k _ _ => noFr0 k) Kp.true ?_
      first | refine Jp.storeAgg 4 rfl (want_all rfl) rfl rfl Try.sizeOf35 rfl rfl rfl rfl rfl rfl (fun k _ _ => noFr0 k) Kp.true ?_ | refine Jp.storeAgg 5 rfl (want_all rfl) rfl rfl Try.sizeOf35 rfl rfl rfl rfl rfl rfl (fun k _ _ => noFr0 k) Kp.true ?_ | refine Jp.storeAgg 8 rfl (want_all rfl) rfl rfl Try.sizeOf35 rfl rfl rfl rfl rfl rfl (fun k _ _ => noFr0 k) Kp.true ?_
      refine Jp.done hK10 ?_
      refine Cd.ret [(0, _)] rfl (by first | exact resCC 4 5 rfl rfl rfl Try.isAgg28 Try.sizeOf28 Try.isAgg35 Try.sizeOf35 rfl rfl rfl rfl | exact resCC 4 8 rfl rfl rfl Try.isAgg28 Try.sizeOf28 Try.isAgg35 Try.sizeOf35 rfl rfl rfl rfl | exact resCC 5 4 rfl rfl rfl Try.isAgg28 Try.sizeOf28 Try.isAgg35 Try.sizeOf35 rfl rfl rfl rfl | exact resCC 5 8 rfl rfl rfl Try.isAgg28 Try.sizeOf28 Try.isAgg35 Try.sizeOf35 rfl rfl rfl rfl | exact resCC 8 4 rfl rfl rfl Try.isAgg28 Try.sizeOf28 Try.isAgg35 Try.sizeOf35 rfl rfl rfl rfl | exact resCC 8 5 rfl rfl rfl Try.isAgg28 Try.sizeOf28 Try.isAgg35 Try.sizeOf35 rfl rfl rfl rfl) ⟨rfl, trivial⟩ ⟨rfl, rfl, rfl⟩
end Go.Proofs.Ytkjeidoplonkjaa
