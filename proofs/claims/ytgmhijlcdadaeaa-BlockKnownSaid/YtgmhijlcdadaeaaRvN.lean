/- Law 18: BlockKnown, the walk. -/
import Derived.Test.YtgmhijlcdadaeaaRvM
set_option linter.unusedVariables false
set_option linter.unusedSimpArgs false
set_option maxRecDepth 100000
namespace Go.Proofs.Ytgmhijlcdadaeaa
open Go
theorem blockKnown_spec : Spec Try.prog 3 #[] (fun _ => True) [] (fun ρ ρ' v L => v = .bool true ∧ L = []) := by
  refine Spec.of 154 Try.func3 rfl Try.ntmps3 [] rfl rfl ?_
  intro cx ρ hr h0
  refine Cd.seq fun K1 hK1 => ?_
  refine Cd.plain [(0, false)] rfl rfl ?_
  refine Jp.y 0 rfl (want_all rfl) rfl rfl Kp.true (Y.assign rfl rfl) ?_
  refine Jp.done hK1 ?_
  refine Cd.seq fun K2 hK2 => ?_
  refine Cd.seq fun K3 hK3 => ?_
  refine Cd.plain [(0, false), (1, false)] rfl rfl ?_
  refine Jp.call [] [] awake18_spec 22 rfl (want_all rfl) rfl rfl (Runs.fn rfl Try.call15 rfl) (by decide) (by decide) rfl trivial ?_
  rintro v1 ρ1 L1 ⟨rfl, rfl⟩
  refine ⟨rfl, fun hle1 => ⟨Kp.true, ?_⟩⟩
  refine Jp.y 23 rfl (want_all rfl) rfl rfl Kp.true (Y.not rfl rfl) ?_
  refine Jp.done hK3 ?_
  refine Cd.cond rfl (fun g23 => ?_) (fun g23 => ?_)
  · skip
    exact absurd g23 (by simp)
  try simp only [decide_eq_false_iff_not, decide_eq_true_eq, Int.not_lt, Int.not_le, Bool.not_eq_false, Bool.not_eq_true, Bool.not_true, Bool.not_false, Bool.not_eq_true', Bool.not_eq_false', beq_eq_false_iff_ne, ne_eq, beq_iff_eq, bne_iff_ne, bne_eq_false_iff_eq, Classical.not_not] at g23
  refine Cd.skip hK2 ?_
  refine Cd.seq fun K4 hK4 => ?_
  refine Cd.plain [(0, false), (1, false), (2, false)] rfl rfl ?_
  refine Jp.lit 24 40 [(0, _), (1, _), (2, _), (3, _), (4, _), (5, _)] [_, _, _, _, _, _] rfl (want_all rfl) rfl rfl rfl rfl Try.underlying26 Try.sizeOf25 Try.zeroValue25 rfl rfl rfl rfl rfl fun b40 => ⟨Kp.true, ?_⟩
  refine Jp.freeze (i := 40) rfl (OwnS.up _ _ _ _ _ _) fun ρa hlea hAa => ?_
  refine Jp.call [] [0] (made_spec (some ⟨b40, 0, none⟩) 6 [19, 19, 0, 19, 4111, 19] (by intro x hx; simp at hx; exact ⟨x.toNat, by omega, by omega⟩)) 25 rfl (want_all rfl) rfl rfl (Runs.fn rfl Try.call16 rfl) (by decide) (by decide) rfl hAa.rd ?_
  rintro v2 ρ2 L2 ⟨b, rfl, rfl⟩
  refine ⟨rfl, fun hle2 => ⟨Kp.true, ?_⟩⟩
  refine Jp.imp (j := 0) rfl (fun h hh => (show MemO b knM h from hh)) ?_
  refine Jp.y 1 rfl (want_all rfl) rfl rfl Kp.true (Y.assign rfl rfl) ?_
  refine Jp.done hK4 ?_
  refine Cd.seq fun K5 hK5 => ?_
  refine Cd.plain [(0, false), (1, false), (2, false), (3, false), (4, false), (5, false), (6, false), (7, false), (8, false)] rfl rfl ?_
  refine Jp.y 27 rfl (want_all rfl) rfl rfl Kp.true (Y.move rfl rfl) ?_
  refine Jp.call [0] [0, 1] (find_yes (M := knM) (T := [i19, i19]) (by omega) kn_a (by simp)) 28 rfl (want_all rfl) rfl rfl (Runs.fn rfl Try.call17 rfl) (by decide) (by decide) rfl trivial ?_
  rintro v3 ρ3 L3 ⟨rfl, B2, d2, rfl, rfl⟩
  refine ⟨rfl, fun hle3 => ⟨Kp.true, ?_⟩⟩
  refine Jp.freeze (i := 1) rfl (OwnS.up _ _ _ _ _ _) fun ρF2 hleF2 hAF2 => ?_
  rw [kn_g0]
  refine Jp.y 26 rfl (want_all rfl) rfl rfl Kp.true (Y.move rfl rfl) ?_
  refine Jp.y 29 rfl (want_all rfl) rfl rfl Kp.true (Y.extract rfl rfl rfl) ?_
  refine Jp.y 30 rfl (want_all rfl) rfl rfl Kp.true (Y.extract rfl rfl rfl) ?_
  refine Jp.alloc 2 2 rfl (want_all rfl) rfl rfl rfl Try.zeroValue29 fun b2 => ⟨Kp.true, ?_⟩
  refine Jp.alloc 3 3 rfl (want_all rfl) rfl rfl rfl Try.zeroValue32 fun b3 => ⟨Kp.true, ?_⟩
  first | refine Jp.storeAgg 2 rfl (want_all rfl) rfl rfl Try.sizeOf29 rfl rfl rfl rfl rfl rfl (fun k _ _ => noFr0 k) Kp.true ?_ | refine Jp.storeAgg 3 rfl (want_all rfl) rfl rfl Try.sizeOf29 rfl rfl rfl rfl rfl rfl (fun k _ _ => noFr0 k) Kp.true ?_ | refine Jp.storeAgg 2 rfl (want_all rfl) rfl rfl Try.sizeOf29 rfl rfl rfl rfl rfl rfl (fun k _ _ => noFr0 k) Kp.true ?_ | refine Jp.storeAgg 3 rfl (want_all rfl) rfl rfl Try.sizeOf29 rfl rfl rfl rfl rfl rfl (fun k _ _ => noFr0 k) Kp.true ?_
  first | refine Jp.storeAgg 2 rfl (want_all rfl) rfl rfl Try.sizeOf32 rfl rfl rfl rfl rfl rfl (fun k _ _ => noFr0 k) Kp.true ?_ | refine Jp.storeAgg 3 rfl (want_all rfl) rfl rfl Try.sizeOf32 rfl rfl rfl rfl rfl rfl (fun k _ _ => noFr0 k) Kp.true ?_ | refine Jp.storeAgg 2 rfl (want_all rfl) rfl rfl Try.sizeOf32 rfl rfl rfl rfl rfl rfl (fun k _ _ => noFr0 k) Kp.true ?_ | refine Jp.storeAgg 3 rfl (want_all rfl) rfl rfl Try.sizeOf32 rfl rfl rfl rfl rfl rfl (fun k _ _ => noFr0 k) Kp.true ?_
  refine Jp.done hK5 ?_
  refine Cd.seq fun K6 hK6 => ?_
  refine Cd.plain [(0, false), (1, false), (2, false), (3, false), (4, false), (5, false), (6, false), (7, false), (8, false)] rfl rfl ?_
  refine Jp.y 32 rfl (want_all rfl) rfl rfl Kp.true (Y.move rfl rfl) ?_
  refine Jp.call [0] [0, 1] (find_yes (M := knM) (T := [i19]) (by omega) kn_c (by simp)) 33 rfl (want_all rfl) rfl rfl (Runs.fn rfl Try.call17 rfl) (by decide) (by decide) rfl trivial ?_
  rintro v4 ρ4 L4 ⟨rfl, B4, d4, rfl, rfl⟩
  refine ⟨rfl, fun hle4 => ⟨Kp.true, ?_⟩⟩
  refine Jp.freeze (i := 1) rfl (OwnS.up _ _ _ _ _ _) fun ρF4 hleF4 hAF4 => ?_
  rw [kn_g0]
  refine Jp.y 31 rfl (want_all rfl) rfl rfl Kp.true (Y.move rfl rfl) ?_
  refine Jp.y 34 rfl (want_all rfl) rfl rfl Kp.true (Y.extract rfl rfl rfl) ?_
  refine Jp.y 35 rfl (want_all rfl) rfl rfl Kp.true (Y.extract rfl rfl rfl) ?_
  refine Jp.alloc 4 4 rfl (want_all rfl) rfl rfl rfl Try.zeroValue29 fun b4 => ⟨Kp.true, ?_⟩
  refine Jp.alloc 5 5 rfl (want_all rfl) rfl rfl rfl Try.zeroValue32 fun b5 => ⟨Kp.true, ?_⟩
  first | refine Jp.storeAgg 4 rfl (want_all rfl) rfl rfl Try.sizeOf29 rfl rfl rfl rfl rfl rfl (fun k _ _ => noFr0 k) Kp.true ?_ | refine Jp.storeAgg 5 rfl (want_all rfl) rfl rfl Try.sizeOf29 rfl rfl rfl rfl rfl rfl (fun k _ _ => noFr0 k) Kp.true ?_ | refine Jp.storeAgg 4 rfl (want_all rfl) rfl rfl Try.sizeOf29 rfl rfl rfl rfl rfl rfl (fun k _ _ => noFr0 k) Kp.true ?_ | refine Jp.storeAgg 5 rfl (want_all rfl) rfl rfl Try.sizeOf29 rfl rfl rfl rfl rfl rfl (fun k _ _ => noFr0 k) Kp.true ?_
  first | refine Jp.storeAgg 4 rfl (want_all rfl) rfl rfl Try.sizeOf32 rfl rfl rfl rfl rfl rfl (fun k _ _ => noFr0 k) Kp.true ?_ | refine Jp.storeAgg 5 rfl (want_all rfl) rfl rfl Try.sizeOf32 rfl rfl rfl rfl rfl rfl (fun k _ _ => noFr0 k) Kp.true ?_ | refine Jp.storeAgg 4 rfl (want_all rfl) rfl rfl Try.sizeOf32 rfl rfl rfl rfl rfl rfl (fun k _ _ => noFr0 k) Kp.true ?_ | refine Jp.storeAgg 5 rfl (want_all rfl) rfl rfl Try.sizeOf32 rfl rfl rfl rfl rfl rfl (fun k _ _ => noFr0 k) Kp.true ?_
  refine Jp.done hK6 ?_
  refine Cd.seq fun K7 hK7 => ?_
  refine Cd.plain [(0, false), (1, false), (2, false), (3, false), (4, false), (5, false), (6, false), (7, false), (8, false)] rfl rfl ?_
  refine Jp.y 37 rfl (want_all rfl) rfl rfl Kp.true (Y.move rfl rfl) ?_
  refine Jp.call [0] [0] (find_no (M := knM) (by omega) kn_e kn_e2) 38 rfl (want_all rfl) rfl rfl (Runs.fn rfl Try.call17 rfl) (by decide) (by decide) rfl trivial ?_
  rintro v5 ρ5 L5 ⟨rfl, rfl, rfl⟩
  refine ⟨rfl, fun hle5 => ⟨Kp.true, ?_⟩⟩
  refine Jp.y 36 rfl (want_all rfl) rfl rfl Kp.true (Y.move rfl rfl) ?_
  refine Jp.y 39 rfl (want_all rfl) rfl rfl Kp.true (Y.extract rfl rfl rfl) ?_
  refine Jp.y 40 rfl (want_all rfl) rfl rfl Kp.true (Y.extract rfl rfl rfl) ?_
  refine Jp.alloc 6 6 rfl (want_all rfl) rfl rfl rfl Try.zeroValue29 fun b6 => ⟨Kp.true, ?_⟩
  refine Jp.alloc 7 7 rfl (want_all rfl) rfl rfl rfl Try.zeroValue32 fun b7 => ⟨Kp.true, ?_⟩
  first | refine Jp.storeAgg 6 rfl (want_all rfl) rfl rfl Try.sizeOf29 rfl rfl rfl rfl rfl rfl (fun k _ _ => noFr0 k) Kp.true ?_ | refine Jp.storeAgg 7 rfl (want_all rfl) rfl rfl Try.sizeOf29 rfl rfl rfl rfl rfl rfl (fun k _ _ => noFr0 k) Kp.true ?_ | refine Jp.storeAgg 6 rfl (want_all rfl) rfl rfl Try.sizeOf29 rfl rfl rfl rfl rfl rfl (fun k _ _ => noFr0 k) Kp.true ?_ | refine Jp.storeAgg 7 rfl (want_all rfl) rfl rfl Try.sizeOf29 rfl rfl rfl rfl rfl rfl (fun k _ _ => noFr0 k) Kp.true ?_
  first | refine Jp.storeAgg 6 rfl (want_all rfl) rfl rfl Try.sizeOf32 rfl rfl rfl rfl rfl rfl (fun k _ _ => noFr0 k) Kp.true ?_ | refine Jp.storeAgg 7 rfl (want_all rfl) rfl rfl Try.sizeOf32 rfl rfl rfl rfl rfl rfl (fun k _ _ => noFr0 k) Kp.true ?_ | refine Jp.storeAgg 6 rfl (want_all rfl) rfl rfl Try.sizeOf32 rfl rfl rfl rfl rfl rfl (fun k _ _ => noFr0 k) Kp.true ?_ | refine Jp.storeAgg 7 rfl (want_all rfl) rfl rfl Try.sizeOf32 rfl rfl rfl rfl rfl rfl (fun k _ _ => noFr0 k) Kp.true ?_
  refine Jp.done hK7 ?_
  refine Cd.seq fun K8 hK8 => ?_
  refine Cd.plain [(0, false), (1, false), (2, false), (3, false), (4, false), (5, false), (6, false), (7, false), (8, false)] rfl rfl ?_
  refine Jp.y 42 rfl (want_all rfl) rfl rfl Kp.true (Y.move rfl rfl) ?_
  refine Jp.call [0] [0, 1] (find_yes (M := knM) (T := [i19, i47]) (by omega) kn_f (by simp)) 43 rfl (want_all rfl) rfl rfl (Runs.fn rfl Try.call17 rfl) (by decide) (by decide) rfl trivial ?_
  rintro v6 ρ6 L6 ⟨rfl, B8, d8, rfl, rfl⟩
  refine ⟨rfl, fun hle6 => ⟨Kp.true, ?_⟩⟩
  refine Jp.freeze (i := 1) rfl (OwnS.up _ _ _ _ _ _) fun ρF8 hleF8 hAF8 => ?_
  obtain ⟨g8, hg8⟩ : ∃ g, knM.gens (baseN 4108) = g := ⟨_, rfl⟩
  rw [hg8]
  refine Jp.y 41 rfl (want_all rfl) rfl rfl Kp.true (Y.move rfl rfl) ?_
  refine Jp.y 44 rfl (want_all rfl) rfl rfl Kp.true (Y.extract rfl rfl rfl) ?_
  refine Jp.y 45 rfl (want_all rfl) rfl rfl Kp.true (Y.extract rfl rfl rfl) ?_
  refine Jp.alloc 8 8 rfl (want_all rfl) rfl rfl rfl Try.zeroValue29 fun b8 => ⟨Kp.true, ?_⟩
  refine Jp.alloc 9 9 rfl (want_all rfl) rfl rfl rfl Try.zeroValue32 fun b9 => ⟨Kp.true, ?_⟩
  first | refine Jp.storeAgg 8 rfl (want_all rfl) rfl rfl Try.sizeOf29 rfl rfl rfl rfl rfl rfl (fun k _ _ => noFr0 k) Kp.true ?_ | refine Jp.storeAgg 9 rfl (want_all rfl) rfl rfl Try.sizeOf29 rfl rfl rfl rfl rfl rfl (fun k _ _ => noFr0 k) Kp.true ?_ | refine Jp.storeAgg 8 rfl (want_all rfl) rfl rfl Try.sizeOf29 rfl rfl rfl rfl rfl rfl (fun k _ _ => noFr0 k) Kp.true ?_ | refine Jp.storeAgg 9 rfl (want_all rfl) rfl rfl Try.sizeOf29 rfl rfl rfl rfl rfl rfl (fun k _ _ => noFr0 k) Kp.true ?_
  first | refine Jp.storeAgg 8 rfl (want_all rfl) rfl rfl Try.sizeOf32 rfl rfl rfl rfl rfl rfl (fun k _ _ => noFr0 k) Kp.true ?_ | refine Jp.storeAgg 9 rfl (want_all rfl) rfl rfl Try.sizeOf32 rfl rfl rfl rfl rfl rfl (fun k _ _ => noFr0 k) Kp.true ?_ | refine Jp.storeAgg 8 rfl (want_all rfl) rfl rfl Try.sizeOf32 rfl rfl rfl rfl rfl rfl (fun k _ _ => noFr0 k) Kp.true ?_ | refine Jp.storeAgg 9 rfl (want_all rfl) rfl rfl Try.sizeOf32 rfl rfl rfl rfl rfl rfl (fun k _ _ => noFr0 k) Kp.true ?_
  refine Jp.done hK8 ?_
  refine Cd.seq fun K9 hK9 => ?_
  refine Cd.plain [(0, false), (1, false), (2, false), (3, false), (4, false), (5, false), (6, false), (7, false), (8, false)] rfl rfl ?_
  have hF := hAF8.rd
  refine Jp.y 47 rfl (want_all rfl) rfl rfl Kp.true (Y.move rfl rfl) ?_
  refine Jp.call [0] [0] (find_no (M := knM) (by omega) kn_g kn_g2) 48 rfl (want_all rfl) rfl rfl (Runs.fn rfl Try.call17 rfl) (by decide) (by decide) rfl trivial ?_
  rintro v7 ρ7 L7 ⟨rfl, rfl, rfl⟩
  refine ⟨rfl, fun hle7 => ⟨Kp.true, ?_⟩⟩
  refine Jp.y 46 rfl (want_all rfl) rfl rfl Kp.true (Y.move rfl rfl) ?_
  refine Jp.y 49 rfl (want_all rfl) rfl rfl Kp.true (Y.extract rfl rfl rfl) ?_
  refine Jp.y 50 rfl (want_all rfl) rfl rfl Kp.true (Y.extract rfl rfl rfl) ?_
  refine Jp.alloc 10 10 rfl (want_all rfl) rfl rfl rfl Try.zeroValue29 fun b10 => ⟨Kp.true, ?_⟩
  refine Jp.alloc 11 11 rfl (want_all rfl) rfl rfl rfl Try.zeroValue32 fun b11 => ⟨Kp.true, ?_⟩
  first | refine Jp.storeAgg 10 rfl (want_all rfl) rfl rfl Try.sizeOf29 rfl rfl rfl rfl rfl rfl (fun k _ _ => noFr0 k) Kp.true ?_ | refine Jp.storeAgg 11 rfl (want_all rfl) rfl rfl Try.sizeOf29 rfl rfl rfl rfl rfl rfl (fun k _ _ => noFr0 k) Kp.true ?_ | refine Jp.storeAgg 10 rfl (want_all rfl) rfl rfl Try.sizeOf29 rfl rfl rfl rfl rfl rfl (fun k _ _ => noFr0 k) Kp.true ?_ | refine Jp.storeAgg 11 rfl (want_all rfl) rfl rfl Try.sizeOf29 rfl rfl rfl rfl rfl rfl (fun k _ _ => noFr0 k) Kp.true ?_
  first | refine Jp.storeAgg 10 rfl (want_all rfl) rfl rfl Try.sizeOf32 rfl rfl rfl rfl rfl rfl (fun k _ _ => noFr0 k) Kp.true ?_ | refine Jp.storeAgg 11 rfl (want_all rfl) rfl rfl Try.sizeOf32 rfl rfl rfl rfl rfl rfl (fun k _ _ => noFr0 k) Kp.true ?_ | refine Jp.storeAgg 10 rfl (want_all rfl) rfl rfl Try.sizeOf32 rfl rfl rfl rfl rfl rfl (fun k _ _ => noFr0 k) Kp.true ?_ | refine Jp.storeAgg 11 rfl (want_all rfl) rfl rfl Try.sizeOf32 rfl rfl rfl rfl rfl rfl (fun k _ _ => noFr0 k) Kp.true ?_
  refine Jp.done hK9 ?_
  refine Cd.seq fun K10 hK10 => ?_
  refine Cd.plain [(0, false), (1, false), (2, false), (3, false), (4, false), (5, false), (6, false), (7, false), (8, false)] rfl rfl ?_
  refine Jp.y 52 rfl (want_all rfl) rfl rfl Kp.true (Y.move rfl rfl) ?_
  refine Jp.call [0] [0] (find_no (M := knM) (by omega) kn_h kn_h2) 53 rfl (want_all rfl) rfl rfl (Runs.fn rfl Try.call17 rfl) (by decide) (by decide) rfl trivial ?_
  rintro v8 ρ8 L8 ⟨rfl, rfl, rfl⟩
  refine ⟨rfl, fun hle8 => ⟨Kp.true, ?_⟩⟩
  refine Jp.y 51 rfl (want_all rfl) rfl rfl Kp.true (Y.move rfl rfl) ?_
  refine Jp.y 54 rfl (want_all rfl) rfl rfl Kp.true (Y.extract rfl rfl rfl) ?_
  refine Jp.y 55 rfl (want_all rfl) rfl rfl Kp.true (Y.extract rfl rfl rfl) ?_
  refine Jp.alloc 12 12 rfl (want_all rfl) rfl rfl rfl Try.zeroValue29 fun b12 => ⟨Kp.true, ?_⟩
  refine Jp.alloc 13 13 rfl (want_all rfl) rfl rfl rfl Try.zeroValue32 fun b13 => ⟨Kp.true, ?_⟩
  first | refine Jp.storeAgg 12 rfl (want_all rfl) rfl rfl Try.sizeOf29 rfl rfl rfl rfl rfl rfl (fun k _ _ => noFr0 k) Kp.true ?_ | refine Jp.storeAgg 13 rfl (want_all rfl) rfl rfl Try.sizeOf29 rfl rfl rfl rfl rfl rfl (fun k _ _ => noFr0 k) Kp.true ?_ | refine Jp.storeAgg 12 rfl (want_all rfl) rfl rfl Try.sizeOf29 rfl rfl rfl rfl rfl rfl (fun k _ _ => noFr0 k) Kp.true ?_ | refine Jp.storeAgg 13 rfl (want_all rfl) rfl rfl Try.sizeOf29 rfl rfl rfl rfl rfl rfl (fun k _ _ => noFr0 k) Kp.true ?_
  first | refine Jp.storeAgg 12 rfl (want_all rfl) rfl rfl Try.sizeOf32 rfl rfl rfl rfl rfl rfl (fun k _ _ => noFr0 k) Kp.true ?_ | refine Jp.storeAgg 13 rfl (want_all rfl) rfl rfl Try.sizeOf32 rfl rfl rfl rfl rfl rfl (fun k _ _ => noFr0 k) Kp.true ?_ | refine Jp.storeAgg 12 rfl (want_all rfl) rfl rfl Try.sizeOf32 rfl rfl rfl rfl rfl rfl (fun k _ _ => noFr0 k) Kp.true ?_ | refine Jp.storeAgg 13 rfl (want_all rfl) rfl rfl Try.sizeOf32 rfl rfl rfl rfl rfl rfl (fun k _ _ => noFr0 k) Kp.true ?_
  refine Jp.done hK10 ?_
  refine Cd.seq fun K11 hK11 => ?_
  refine Cd.plain [(0, false), (1, false), (2, false), (3, false)] rfl rfl ?_
  refine Jp.imp (j := 2) rfl (fun h hh => (show Pt b2 (.cells (blockC 4096 B2 2 d2 2).toArray 29) h from hh)) ?_
  refine Jp.y 56 rfl (want_all rfl) rfl rfl Kp.true (Y.move rfl rfl) ?_
  refine Jp.y 57 rfl (want_all rfl) rfl rfl Kp.true (by first | exact Y.loadAggO 2 rfl Try.isAgg29 Try.sizeOf29 rfl rfl rfl) ?_
  refine Jp.call [0] [0] (fresh_spec b knM 4096 2 2 d2 B2 (by omega)) 58 rfl (want_all rfl) rfl rfl (Runs.fn rfl Try.call18 rfl) (by decide) (by decide) rfl trivial ?_
  rintro v9 ρ9 L9 ⟨rfl, rfl, rfl⟩
  refine ⟨rfl, fun hle9 => ⟨Kp.true, ?_⟩⟩
  rw [kn_g0]
  refine Jp.y 14 rfl (want_all rfl) rfl rfl Kp.true (Y.assign rfl rfl) ?_
  refine Jp.done hK11 ?_
  refine Cd.seq fun K12 hK12 => ?_
  refine Cd.plain [(0, false), (1, false), (2, false)] rfl rfl ?_
  refine Jp.y 59 rfl (want_all rfl) rfl rfl Kp.true (Y.move rfl rfl) ?_
  refine Jp.lit 60 41 [(0, _)] [_] rfl (want_all rfl) rfl rfl rfl rfl Try.underlying38 Try.sizeOf5 Try.zeroValue5 rfl rfl rfl rfl rfl fun b41 => ⟨Kp.true, ?_⟩
  refine Jp.freeze (i := 41) rfl (OwnS.up _ _ _ _ _ _) fun ρb hleb hAb => ?_
  have hF := RdS.up _ _ _ _ _ _ _ hleb hF
  refine Jp.call [0] [0] (Poke_spec b knM 4200 ⟨some ⟨b41, 0, none⟩, 1, [1]⟩ (by omega)) 61 rfl (want_all rfl) rfl rfl (Runs.fn rfl Try.call19 rfl) (by decide) (by decide) rfl hAb.rd ?_
  rintro v10 ρ10 L10 ⟨rfl, rfl, rfl⟩
  refine ⟨rfl, fun hle10 => ⟨Kp.true, ?_⟩⟩
  refine Jp.imp (j := 0) rfl (fun h hh => (show MemO b knM1 h from hh)) ?_
  refine Jp.done hK12 ?_
  refine Cd.seq fun K13 hK13 => ?_
  refine Cd.plain [(0, false), (1, false), (2, false)] rfl rfl ?_
  refine Jp.lit 62 42 [] [] rfl (want_all rfl) rfl rfl rfl rfl Try.underlying26 Try.sizeOf25 Try.zeroValue25 rfl rfl rfl rfl rfl fun b42 => ⟨Kp.true, ?_⟩
  refine Jp.freeze (i := 42) rfl (OwnS.up _ _ _ _ _ _) fun ρe hlee hAe => ?_
  have hF := RdS.up _ _ _ _ _ _ _ hlee hF
  refine Jp.call [] [30] (made_spec (some ⟨b42, 0, none⟩) 0 [] (by intro x hx; simp at hx)) 63 rfl (want_all rfl) rfl rfl (Runs.fn rfl Try.call16 rfl) (by decide) (by decide) rfl hAe.rd ?_
  rintro v11 ρ11 L11 ⟨nb, rfl, rfl⟩
  refine ⟨rfl, fun hle11 => ⟨Kp.true, ?_⟩⟩
  have hF := RdS.up _ _ _ _ _ _ _ hle11 hF
  refine Jp.y 15 rfl (want_all rfl) rfl rfl Kp.true (Y.assign rfl rfl) ?_
  refine Jp.done hK13 ?_
  refine Cd.seq fun K14 hK14 => ?_
  refine Cd.plain [(0, false)] rfl rfl ?_
  refine Jp.y 16 rfl (want_all rfl) rfl rfl Kp.true (Y.assign rfl rfl) ?_
  refine Jp.done hK14 ?_
  refine Cd.seq fun K15 hK15 => ?_
  refine Cd.seq fun K16 hK16 => ?_
  refine Cd.plain [(0, false)] rfl rfl ?_
  refine Jp.y 17 rfl (want_all rfl) rfl rfl Kp.true (Y.assign rfl rfl) ?_
  refine Jp.done hK16 ?_
  refine Cd.block ?_
  refine Cd.make 31 (A := OwnS 5 1 none 0 0 (bytesV (knAll 0))) (OwnS.nil _ _ _) ?_
  refine Cd.joinG (G := Option Addr × Nat) (fun _ => True) (fun g => [(16, .slice g.1 (knAll 64).length g.2)]) [(1, _), (2, _), (3, _), (4, _), (5, _), (7, _), (8, _), (11, _), (13, _), (14, _), (15, _)] ⟨rfl, rfl, rfl, rfl, rfl, rfl, rfl, rfl, rfl, rfl, rfl, trivial⟩ (fun g => [(31, OwnS 5 1 g.1 (knAll 64).length g.2 (bytesV (knAll 64)))]) [(0, _), (2, _), (3, _), (4, _), (5, _), (6, _), (7, _), (8, _), (9, _), (10, _), (11, _), (12, _), (13, _), (30, _)] ⟨rfl, rfl, rfl, rfl, rfl, rfl, rfl, rfl, rfl, rfl, rfl, rfl, rfl, rfl, trivial⟩ hK15 (fun g hφ => ?_) (fun hj1 => ?_)
  · obtain ⟨B, d⟩ := g
    clear hφ
    dsimp only
    have hl64 := knAll_len 64
    refine Cd.freeze (i := 31) rfl (OwnS.up _ _ _ _ _ _) fun ρc hlec hAc => ?_
    have hF := RdS.up _ _ _ _ _ _ _ hlec hF
    refine Cd.seq fun K17 hK17 => ?_
    refine Cd.plain [(0, false), (1, false), (2, false)] rfl rfl ?_
    refine Jp.y 71 rfl (want_all rfl) rfl rfl Kp.true (Y.move rfl rfl) ?_
    refine Jp.y 72 rfl (want_all rfl) rfl rfl Kp.true (Y.move rfl rfl) ?_
    refine Jp.call [30] [30] (Poke_spec nb (madeM []) 4096 ⟨B, d, knAll 64⟩ (by omega)) 73 rfl (want_all rfl) rfl rfl (Runs.fn rfl Try.call19 rfl) (by decide) (by decide) rfl hAc.rd ?_
    rintro v12 ρ12 L12 ⟨rfl, rfl, rfl⟩
    refine ⟨rfl, fun hle12 => ⟨Kp.true, ?_⟩⟩
    refine Jp.imp (j := 30) rfl (fun h hh => (show MemO nb knN h from hh)) ?_
    refine Jp.done hK17 ?_
    refine Cd.seq fun K18 hK18 => ?_
    refine Cd.plain [(0, false), (1, false), (2, false), (3, false), (4, false), (5, false), (6, false), (7, false), (8, false)] rfl rfl ?_
    refine Jp.y 75 rfl (want_all rfl) rfl rfl Kp.true (Y.move rfl rfl) ?_
    refine Jp.call [30] [30, 1] (find_yes (M := knN) (T := [i19, i19, i19, i19]) (by omega) kn_i (by simp)) 76 rfl (want_all rfl) rfl rfl (Runs.fn rfl Try.call17 rfl) (by decide) (by decide) rfl trivial ?_
    rintro v13 ρ13 L13 ⟨rfl, B18, d18, rfl, rfl⟩
    refine ⟨rfl, fun hle13 => ⟨Kp.true, ?_⟩⟩
    refine Jp.freeze (i := 1) rfl (OwnS.up _ _ _ _ _ _) fun ρF18 hleF18 hAF18 => ?_
    obtain ⟨g18, hg18⟩ : ∃ g, knN.gens (baseN 4336) = g := ⟨_, rfl⟩
    rw [hg18]
    refine Jp.y 74 rfl (want_all rfl) rfl rfl Kp.true (Y.move rfl rfl) ?_
    refine Jp.y 77 rfl (want_all rfl) rfl rfl Kp.true (Y.extract rfl rfl rfl) ?_
    refine Jp.y 78 rfl (want_all rfl) rfl rfl Kp.true (Y.extract rfl rfl rfl) ?_
    refine Jp.alloc 18 18 rfl (want_all rfl) rfl rfl rfl Try.zeroValue29 fun b18 => ⟨Kp.true, ?_⟩
    refine Jp.alloc 19 19 rfl (want_all rfl) rfl rfl rfl Try.zeroValue32 fun b19 => ⟨Kp.true, ?_⟩
    first | refine Jp.storeAgg 18 rfl (want_all rfl) rfl rfl Try.sizeOf29 rfl rfl rfl rfl rfl rfl (fun k _ _ => noFr0 k) Kp.true ?_ | refine Jp.storeAgg 19 rfl (want_all rfl) rfl rfl Try.sizeOf29 rfl rfl rfl rfl rfl rfl (fun k _ _ => noFr0 k) Kp.true ?_ | refine Jp.storeAgg 18 rfl (want_all rfl) rfl rfl Try.sizeOf29 rfl rfl rfl rfl rfl rfl (fun k _ _ => noFr0 k) Kp.true ?_ | refine Jp.storeAgg 19 rfl (want_all rfl) rfl rfl Try.sizeOf29 rfl rfl rfl rfl rfl rfl (fun k _ _ => noFr0 k) Kp.true ?_
    first | refine Jp.storeAgg 18 rfl (want_all rfl) rfl rfl Try.sizeOf32 rfl rfl rfl rfl rfl rfl (fun k _ _ => noFr0 k) Kp.true ?_ | refine Jp.storeAgg 19 rfl (want_all rfl) rfl rfl Try.sizeOf32 rfl rfl rfl rfl rfl rfl (fun k _ _ => noFr0 k) Kp.true ?_ | refine Jp.storeAgg 18 rfl (want_all rfl) rfl rfl Try.sizeOf32 rfl rfl rfl rfl rfl rfl (fun k _ _ => noFr0 k) Kp.true ?_ | refine Jp.storeAgg 19 rfl (want_all rfl) rfl rfl Try.sizeOf32 rfl rfl rfl rfl rfl rfl (fun k _ _ => noFr0 k) Kp.true ?_
    refine Jp.done hK18 ?_
    refine Cd.seq fun K19 hK19 => ?_
    refine Cd.plain [(0, false), (1, false), (2, false), (3, false), (4, false), (5, false), (6, false), (7, false), (8, false)] rfl rfl ?_
    have hF := RdS.up _ _ _ _ _ _ _ hleF18 hF
    refine Jp.y 80 rfl (want_all rfl) rfl rfl Kp.true (Y.move rfl rfl) ?_
    refine Jp.call [30] [30, 1] (find_yes (M := knN) (T := [i19]) (by omega) kn_j (by simp)) 81 rfl (want_all rfl) rfl rfl (Runs.fn rfl Try.call17 rfl) (by decide) (by decide) rfl trivial ?_
    rintro v14 ρ14 L14 ⟨rfl, B20, d20, rfl, rfl⟩
    refine ⟨rfl, fun hle14 => ⟨Kp.true, ?_⟩⟩
    refine Jp.freeze (i := 1) rfl (OwnS.up _ _ _ _ _ _) fun ρF20 hleF20 hAF20 => ?_
    obtain ⟨g20, hg20⟩ : ∃ g, knN.gens (baseN 4096) = g := ⟨_, rfl⟩
    rw [hg20]
    refine Jp.y 79 rfl (want_all rfl) rfl rfl Kp.true (Y.move rfl rfl) ?_
    refine Jp.y 82 rfl (want_all rfl) rfl rfl Kp.true (Y.extract rfl rfl rfl) ?_
    refine Jp.y 83 rfl (want_all rfl) rfl rfl Kp.true (Y.extract rfl rfl rfl) ?_
    refine Jp.alloc 20 20 rfl (want_all rfl) rfl rfl rfl Try.zeroValue29 fun b20 => ⟨Kp.true, ?_⟩
    refine Jp.alloc 21 21 rfl (want_all rfl) rfl rfl rfl Try.zeroValue32 fun b21 => ⟨Kp.true, ?_⟩
    first | refine Jp.storeAgg 20 rfl (want_all rfl) rfl rfl Try.sizeOf29 rfl rfl rfl rfl rfl rfl (fun k _ _ => noFr0 k) Kp.true ?_ | refine Jp.storeAgg 21 rfl (want_all rfl) rfl rfl Try.sizeOf29 rfl rfl rfl rfl rfl rfl (fun k _ _ => noFr0 k) Kp.true ?_ | refine Jp.storeAgg 20 rfl (want_all rfl) rfl rfl Try.sizeOf29 rfl rfl rfl rfl rfl rfl (fun k _ _ => noFr0 k) Kp.true ?_ | refine Jp.storeAgg 21 rfl (want_all rfl) rfl rfl Try.sizeOf29 rfl rfl rfl rfl rfl rfl (fun k _ _ => noFr0 k) Kp.true ?_
    first | refine Jp.storeAgg 20 rfl (want_all rfl) rfl rfl Try.sizeOf32 rfl rfl rfl rfl rfl rfl (fun k _ _ => noFr0 k) Kp.true ?_ | refine Jp.storeAgg 21 rfl (want_all rfl) rfl rfl Try.sizeOf32 rfl rfl rfl rfl rfl rfl (fun k _ _ => noFr0 k) Kp.true ?_ | refine Jp.storeAgg 20 rfl (want_all rfl) rfl rfl Try.sizeOf32 rfl rfl rfl rfl rfl rfl (fun k _ _ => noFr0 k) Kp.true ?_ | refine Jp.storeAgg 21 rfl (want_all rfl) rfl rfl Try.sizeOf32 rfl rfl rfl rfl rfl rfl (fun k _ _ => noFr0 k) Kp.true ?_
    refine Jp.done hK19 ?_
    refine Cd.seq fun K20 hK20 => ?_
    refine Cd.plain [(0, false), (1, false), (2, false), (3, false), (4, false), (5, false), (6, false), (7, false), (8, false), (9, false), (10, false), (11, false), (12, false), (13, false), (14, false), (15, false), (16, false), (17, false), (18, false), (19, false), (20, false), (21, false), (22, false), (23, false), (24, false), (25, false), (26, false), (27, false), (28, false), (29, false), (30, false), (31, false), (32, false), (33, false), (34, false), (35, false), (36, false), (37, false), (38, false), (39, false), (40, false), (41, false), (42, false), (43, false), (44, false), (45, false), (46, false), (47, false), (48, false), (49, false), (50, false), (51, false), (52, false), (53, false), (54, false), (55, false), (56, false), (57, false), (58, false), (59, false), (60, false), (61, false), (62, false), (63, false), (64, false), (65, false), (66, false), (67, false), (68, false), (69, false), (70, false)] rfl rfl ?_
    have hF := RdS.up _ _ _ _ _ _ _ hleF20 hF
    refine Jp.imp (j := 3) rfl (fun h hh => (show Pt b3 (.cells (EvP.mk 0 0 0).cells.toArray 32) h from hh)) ?_
    refine Jp.imp (j := 5) rfl (fun h hh => (show Pt b5 (.cells (EvP.mk 0 0 0).cells.toArray 32) h from hh)) ?_
    refine Jp.imp (j := 7) rfl (fun h hh => (show Pt b7 (.cells (EvP.mk 2 4104 0).cells.toArray 32) h from hh)) ?_
    refine Jp.imp (j := 11) rfl (fun h hh => (show Pt b11 (.cells (EvP.mk 1 65536 2).cells.toArray 32) h from hh)) ?_
    refine Jp.imp (j := 13) rfl (fun h hh => (show Pt b13 (.cells (EvP.mk 1 4098 3).cells.toArray 32) h from hh)) ?_
    refine Jp.y 84 rfl (want_all rfl) rfl rfl Kp.true (by first | exact Y.loadAggO 2 rfl Try.isAgg32 Try.sizeOf32 rfl rfl rfl | exact Y.loadAggO 3 rfl Try.isAgg32 Try.sizeOf32 rfl rfl rfl | exact Y.loadAggO 4 rfl Try.isAgg32 Try.sizeOf32 rfl rfl rfl | exact Y.loadAggO 5 rfl Try.isAgg32 Try.sizeOf32 rfl rfl rfl | exact Y.loadAggO 6 rfl Try.isAgg32 Try.sizeOf32 rfl rfl rfl | exact Y.loadAggO 7 rfl Try.isAgg32 Try.sizeOf32 rfl rfl rfl | exact Y.loadAggO 8 rfl Try.isAgg32 Try.sizeOf32 rfl rfl rfl | exact Y.loadAggO 9 rfl Try.isAgg32 Try.sizeOf32 rfl rfl rfl | exact Y.loadAggO 10 rfl Try.isAgg32 Try.sizeOf32 rfl rfl rfl | exact Y.loadAggO 11 rfl Try.isAgg32 Try.sizeOf32 rfl rfl rfl | exact Y.loadAggO 12 rfl Try.isAgg32 Try.sizeOf32 rfl rfl rfl | exact Y.loadAggO 13 rfl Try.isAgg32 Try.sizeOf32 rfl rfl rfl | exact Y.loadAggO 18 rfl Try.isAgg32 Try.sizeOf32 rfl rfl rfl | exact Y.loadAggO 19 rfl Try.isAgg32 Try.sizeOf32 rfl rfl rfl | exact Y.loadAggO 20 rfl Try.isAgg32 Try.sizeOf32 rfl rfl rfl | exact Y.loadAggO 21 rfl Try.isAgg32 Try.sizeOf32 rfl rfl rfl) ?_
    refine Jp.y 85 rfl (want_all rfl) rfl rfl Kp.true (Y.struct [] [_, _, _] rfl rfl places32 Try.zeroValue32 rfl) ?_
    refine Jp.y 86 rfl (want_all rfl) rfl rfl Kp.true (Y.eqlS (xs := (EvP.mk 0 0 0).cells.toArray) (ys := (EvP.mk 0 0 0).cells.toArray) (r := true) rfl rfl rfl ev_guard ev_fields ev_stood (fun w => by rw [ev_eq, (evEq_iff _ _).2 rfl])) ?_
    refine Jp.y 87 rfl (want_all rfl) rfl rfl Kp.true (Y.move rfl rfl) ?_
    refine Jp.y 88 rfl (want_as rfl rfl rfl rfl) rfl rfl Kp.true (by first | exact Y.fieldAddrP rfl rfl Try.underlying29 rfl Try.sizeOf27 (by decide) (show _ + 1 = _ from rfl) | exact Y.fieldAddr rfl rfl Try.underlying29 rfl Try.sizeOf27 (by decide)) ?_
    refine Jp.y 89 rfl (want_as rfl rfl rfl rfl) rfl rfl Kp.true (by first | exact Y.loadO 2 rfl Try.isAgg27 rfl rfl rfl | exact Y.loadO 3 rfl Try.isAgg27 rfl rfl rfl | exact Y.loadO 4 rfl Try.isAgg27 rfl rfl rfl | exact Y.loadO 5 rfl Try.isAgg27 rfl rfl rfl | exact Y.loadO 6 rfl Try.isAgg27 rfl rfl rfl | exact Y.loadO 7 rfl Try.isAgg27 rfl rfl rfl | exact Y.loadO 8 rfl Try.isAgg27 rfl rfl rfl | exact Y.loadO 9 rfl Try.isAgg27 rfl rfl rfl | exact Y.loadO 10 rfl Try.isAgg27 rfl rfl rfl | exact Y.loadO 11 rfl Try.isAgg27 rfl rfl rfl | exact Y.loadO 12 rfl Try.isAgg27 rfl rfl rfl | exact Y.loadO 13 rfl Try.isAgg27 rfl rfl rfl | exact Y.loadO 18 rfl Try.isAgg27 rfl rfl rfl | exact Y.loadO 19 rfl Try.isAgg27 rfl rfl rfl | exact Y.loadO 20 rfl Try.isAgg27 rfl rfl rfl | exact Y.loadO 21 rfl Try.isAgg27 rfl rfl rfl) ?_
    refine Jp.y 90 rfl (want_as rfl rfl rfl rfl) rfl rfl Kp.true (Y.lenslice rfl Try.underlying27 rfl) ?_
    refine Jp.y 91 rfl (want_as rfl rfl rfl rfl) rfl rfl Kp.true (Y.eql rfl rfl rfl) ?_
    refine Jp.slot 91 rfl (show _ = Value.bool true from rfl) ?_
    refine Jp.y 92 rfl (want_all rfl) rfl rfl Kp.true (Y.pickT rfl rfl rfl) ?_
    refine Jp.y 93 rfl (want_all rfl) rfl rfl Kp.true (Y.move rfl rfl) ?_
    refine Jp.y 94 rfl (want_as rfl rfl rfl rfl) rfl rfl Kp.true (by first | exact Y.loadAggO 2 rfl Try.isAgg32 Try.sizeOf32 rfl rfl rfl | exact Y.loadAggO 3 rfl Try.isAgg32 Try.sizeOf32 rfl rfl rfl | exact Y.loadAggO 4 rfl Try.isAgg32 Try.sizeOf32 rfl rfl rfl | exact Y.loadAggO 5 rfl Try.isAgg32 Try.sizeOf32 rfl rfl rfl | exact Y.loadAggO 6 rfl Try.isAgg32 Try.sizeOf32 rfl rfl rfl | exact Y.loadAggO 7 rfl Try.isAgg32 Try.sizeOf32 rfl rfl rfl | exact Y.loadAggO 8 rfl Try.isAgg32 Try.sizeOf32 rfl rfl rfl | exact Y.loadAggO 9 rfl Try.isAgg32 Try.sizeOf32 rfl rfl rfl | exact Y.loadAggO 10 rfl Try.isAgg32 Try.sizeOf32 rfl rfl rfl | exact Y.loadAggO 11 rfl Try.isAgg32 Try.sizeOf32 rfl rfl rfl | exact Y.loadAggO 12 rfl Try.isAgg32 Try.sizeOf32 rfl rfl rfl | exact Y.loadAggO 13 rfl Try.isAgg32 Try.sizeOf32 rfl rfl rfl | exact Y.loadAggO 18 rfl Try.isAgg32 Try.sizeOf32 rfl rfl rfl | exact Y.loadAggO 19 rfl Try.isAgg32 Try.sizeOf32 rfl rfl rfl | exact Y.loadAggO 20 rfl Try.isAgg32 Try.sizeOf32 rfl rfl rfl | exact Y.loadAggO 21 rfl Try.isAgg32 Try.sizeOf32 rfl rfl rfl) ?_
    refine Jp.y 95 rfl (want_as rfl rfl rfl rfl) rfl rfl Kp.true (Y.struct [] [_, _, _] rfl rfl places32 Try.zeroValue32 rfl) ?_
    refine Jp.y 96 rfl (want_as rfl rfl rfl rfl) rfl rfl Kp.true (Y.eqlS (xs := (EvP.mk 0 0 0).cells.toArray) (ys := (EvP.mk 0 0 0).cells.toArray) (r := true) rfl rfl rfl ev_guard ev_fields ev_stood (fun w => by rw [ev_eq, (evEq_iff _ _).2 rfl])) ?_
    refine Jp.y 97 rfl (want_all rfl) rfl rfl Kp.true (Y.pickT rfl rfl rfl) ?_
    refine Jp.y 98 rfl (want_all rfl) rfl rfl Kp.true (Y.move rfl rfl) ?_
    refine Jp.y 99 rfl (want_as rfl rfl rfl rfl) rfl rfl Kp.true (by first | exact Y.fieldAddrP rfl rfl Try.underlying29 rfl Try.sizeOf27 (by decide) (show _ + 1 = _ from rfl) | exact Y.fieldAddr rfl rfl Try.underlying29 rfl Try.sizeOf27 (by decide)) ?_
    refine Jp.y 100 rfl (want_as rfl rfl rfl rfl) rfl rfl Kp.true (by first | exact Y.loadO 2 rfl Try.isAgg27 rfl rfl rfl | exact Y.loadO 3 rfl Try.isAgg27 rfl rfl rfl | exact Y.loadO 4 rfl Try.isAgg27 rfl rfl rfl | exact Y.loadO 5 rfl Try.isAgg27 rfl rfl rfl | exact Y.loadO 6 rfl Try.isAgg27 rfl rfl rfl | exact Y.loadO 7 rfl Try.isAgg27 rfl rfl rfl | exact Y.loadO 8 rfl Try.isAgg27 rfl rfl rfl | exact Y.loadO 9 rfl Try.isAgg27 rfl rfl rfl | exact Y.loadO 10 rfl Try.isAgg27 rfl rfl rfl | exact Y.loadO 11 rfl Try.isAgg27 rfl rfl rfl | exact Y.loadO 12 rfl Try.isAgg27 rfl rfl rfl | exact Y.loadO 13 rfl Try.isAgg27 rfl rfl rfl | exact Y.loadO 18 rfl Try.isAgg27 rfl rfl rfl | exact Y.loadO 19 rfl Try.isAgg27 rfl rfl rfl | exact Y.loadO 20 rfl Try.isAgg27 rfl rfl rfl | exact Y.loadO 21 rfl Try.isAgg27 rfl rfl rfl) ?_
    refine Jp.y 101 rfl (want_as rfl rfl rfl rfl) rfl rfl Kp.true (Y.lenslice rfl Try.underlying27 rfl) ?_
    refine Jp.y 102 rfl (want_as rfl rfl rfl rfl) rfl rfl Kp.true (Y.eql rfl rfl rfl) ?_
    refine Jp.slot 102 rfl (show _ = Value.bool true from rfl) ?_
    refine Jp.y 103 rfl (want_all rfl) rfl rfl Kp.true (Y.pickT rfl rfl rfl) ?_
    refine Jp.y 104 rfl (want_all rfl) rfl rfl Kp.true (Y.move rfl rfl) ?_
    refine Jp.y 105 rfl (want_as rfl rfl rfl rfl) rfl rfl Kp.true (by first | exact Y.loadAggO 2 rfl Try.isAgg32 Try.sizeOf32 rfl rfl rfl | exact Y.loadAggO 3 rfl Try.isAgg32 Try.sizeOf32 rfl rfl rfl | exact Y.loadAggO 4 rfl Try.isAgg32 Try.sizeOf32 rfl rfl rfl | exact Y.loadAggO 5 rfl Try.isAgg32 Try.sizeOf32 rfl rfl rfl | exact Y.loadAggO 6 rfl Try.isAgg32 Try.sizeOf32 rfl rfl rfl | exact Y.loadAggO 7 rfl Try.isAgg32 Try.sizeOf32 rfl rfl rfl | exact Y.loadAggO 8 rfl Try.isAgg32 Try.sizeOf32 rfl rfl rfl | exact Y.loadAggO 9 rfl Try.isAgg32 Try.sizeOf32 rfl rfl rfl | exact Y.loadAggO 10 rfl Try.isAgg32 Try.sizeOf32 rfl rfl rfl | exact Y.loadAggO 11 rfl Try.isAgg32 Try.sizeOf32 rfl rfl rfl | exact Y.loadAggO 12 rfl Try.isAgg32 Try.sizeOf32 rfl rfl rfl | exact Y.loadAggO 13 rfl Try.isAgg32 Try.sizeOf32 rfl rfl rfl | exact Y.loadAggO 18 rfl Try.isAgg32 Try.sizeOf32 rfl rfl rfl | exact Y.loadAggO 19 rfl Try.isAgg32 Try.sizeOf32 rfl rfl rfl | exact Y.loadAggO 20 rfl Try.isAgg32 Try.sizeOf32 rfl rfl rfl | exact Y.loadAggO 21 rfl Try.isAgg32 Try.sizeOf32 rfl rfl rfl) ?_
    refine Jp.y 106 rfl (want_as rfl rfl rfl rfl) rfl rfl Kp.true (Y.struct [(0, _), (1, _)] [_, _, _] rfl rfl places32 Try.zeroValue32 rfl) ?_
    refine Jp.y 107 rfl (want_as rfl rfl rfl rfl) rfl rfl Kp.true (Y.eqlS (xs := (EvP.mk 2 4104 0).cells.toArray) (ys := (EvP.mk 2 4104 0).cells.toArray) (r := true) rfl rfl rfl ev_guard ev_fields ev_stood (fun w => by rw [ev_eq, (evEq_iff _ _).2 rfl])) ?_
    refine Jp.y 108 rfl (want_all rfl) rfl rfl Kp.true (Y.pickT rfl rfl rfl) ?_
    refine Jp.y 109 rfl (want_all rfl) rfl rfl Kp.true (Y.move rfl rfl) ?_
    refine Jp.y 110 rfl (want_as rfl rfl rfl rfl) rfl rfl Kp.true (by first | exact Y.fieldAddrP rfl rfl Try.underlying29 rfl Try.sizeOf27 (by decide) (show _ + 1 = _ from rfl) | exact Y.fieldAddr rfl rfl Try.underlying29 rfl Try.sizeOf27 (by decide)) ?_
    refine Jp.y 111 rfl (want_as rfl rfl rfl rfl) rfl rfl Kp.true (by first | exact Y.loadO 2 rfl Try.isAgg27 rfl rfl rfl | exact Y.loadO 3 rfl Try.isAgg27 rfl rfl rfl | exact Y.loadO 4 rfl Try.isAgg27 rfl rfl rfl | exact Y.loadO 5 rfl Try.isAgg27 rfl rfl rfl | exact Y.loadO 6 rfl Try.isAgg27 rfl rfl rfl | exact Y.loadO 7 rfl Try.isAgg27 rfl rfl rfl | exact Y.loadO 8 rfl Try.isAgg27 rfl rfl rfl | exact Y.loadO 9 rfl Try.isAgg27 rfl rfl rfl | exact Y.loadO 10 rfl Try.isAgg27 rfl rfl rfl | exact Y.loadO 11 rfl Try.isAgg27 rfl rfl rfl | exact Y.loadO 12 rfl Try.isAgg27 rfl rfl rfl | exact Y.loadO 13 rfl Try.isAgg27 rfl rfl rfl | exact Y.loadO 18 rfl Try.isAgg27 rfl rfl rfl | exact Y.loadO 19 rfl Try.isAgg27 rfl rfl rfl | exact Y.loadO 20 rfl Try.isAgg27 rfl rfl rfl | exact Y.loadO 21 rfl Try.isAgg27 rfl rfl rfl) ?_
    refine Jp.y 112 rfl (want_as rfl rfl rfl rfl) rfl rfl Kp.true (Y.lenslice rfl Try.underlying27 rfl) ?_
    refine Jp.y 113 rfl (want_as rfl rfl rfl rfl) rfl rfl Kp.true (Y.eql rfl rfl rfl) ?_
    refine Jp.slot 113 rfl (show _ = Value.bool true from rfl) ?_
    obtain ⟨adF, rfl, hcF⟩ := bin_at hF (show ([i19, i47] : List InsP)[1]? = some i47 from rfl)
    have hlF : ([i19, i47] : List InsP).length = 2 := rfl
    refine Jp.y 114 rfl (want_all rfl) rfl rfl Kp.true (Y.pickT rfl rfl rfl) ?_
    refine Jp.y 115 rfl (want_all rfl) rfl rfl Kp.true (Y.move rfl rfl) ?_
    refine Jp.y 116 rfl (want_as rfl rfl rfl rfl) rfl rfl Kp.true (by first | exact Y.fieldAddrP rfl rfl Try.underlying29 rfl Try.sizeOf27 (by decide) (show _ + 1 = _ from rfl) | exact Y.fieldAddr rfl rfl Try.underlying29 rfl Try.sizeOf27 (by decide)) ?_
    refine Jp.y 117 rfl (want_as rfl rfl rfl rfl) rfl rfl Kp.true (by first | exact Y.loadO 2 rfl Try.isAgg27 rfl rfl rfl | exact Y.loadO 3 rfl Try.isAgg27 rfl rfl rfl | exact Y.loadO 4 rfl Try.isAgg27 rfl rfl rfl | exact Y.loadO 5 rfl Try.isAgg27 rfl rfl rfl | exact Y.loadO 6 rfl Try.isAgg27 rfl rfl rfl | exact Y.loadO 7 rfl Try.isAgg27 rfl rfl rfl | exact Y.loadO 8 rfl Try.isAgg27 rfl rfl rfl | exact Y.loadO 9 rfl Try.isAgg27 rfl rfl rfl | exact Y.loadO 10 rfl Try.isAgg27 rfl rfl rfl | exact Y.loadO 11 rfl Try.isAgg27 rfl rfl rfl | exact Y.loadO 12 rfl Try.isAgg27 rfl rfl rfl | exact Y.loadO 13 rfl Try.isAgg27 rfl rfl rfl | exact Y.loadO 18 rfl Try.isAgg27 rfl rfl rfl | exact Y.loadO 19 rfl Try.isAgg27 rfl rfl rfl | exact Y.loadO 20 rfl Try.isAgg27 rfl rfl rfl | exact Y.loadO 21 rfl Try.isAgg27 rfl rfl rfl) ?_
    refine Jp.y 118 rfl (want_as rfl rfl rfl rfl) rfl rfl Kp.true (Y.indexAddr (q := 5) rfl rfl rfl Try.underlying27 Try.sizeOf40 (by omega) (by omega) (by omega)) ?_
    refine Jp.y 119 rfl (want_as rfl rfl rfl rfl) rfl rfl Kp.true (by first | exact Y.fieldAddrP rfl rfl Try.underlying40 rfl Try.sizeOf3 (by decide) (show _ + 0 = _ from rfl) | exact Y.fieldAddr rfl rfl Try.underlying40 rfl Try.sizeOf3 (by decide)) ?_
    refine Jp.y 120 rfl (want_as rfl rfl rfl rfl) rfl rfl Kp.true (Y.loadR rfl Try.isAgg3 rfl (hcF 0 _ rfl)) ?_
    refine Jp.y 121 rfl (want_as rfl rfl rfl rfl) rfl rfl Kp.true (Y.eql rfl rfl rfl) ?_
    refine Jp.slot 121 rfl (show _ = Value.bool true from rfl) ?_
    refine Jp.y 122 rfl (want_all rfl) rfl rfl Kp.true (Y.pickT rfl rfl rfl) ?_
    refine Jp.y 123 rfl (want_all rfl) rfl rfl Kp.true (Y.move rfl rfl) ?_
    refine Jp.y 124 rfl (want_as rfl rfl rfl rfl) rfl rfl Kp.true (by first | exact Y.loadAggO 2 rfl Try.isAgg32 Try.sizeOf32 rfl rfl rfl | exact Y.loadAggO 3 rfl Try.isAgg32 Try.sizeOf32 rfl rfl rfl | exact Y.loadAggO 4 rfl Try.isAgg32 Try.sizeOf32 rfl rfl rfl | exact Y.loadAggO 5 rfl Try.isAgg32 Try.sizeOf32 rfl rfl rfl | exact Y.loadAggO 6 rfl Try.isAgg32 Try.sizeOf32 rfl rfl rfl | exact Y.loadAggO 7 rfl Try.isAgg32 Try.sizeOf32 rfl rfl rfl | exact Y.loadAggO 8 rfl Try.isAgg32 Try.sizeOf32 rfl rfl rfl | exact Y.loadAggO 9 rfl Try.isAgg32 Try.sizeOf32 rfl rfl rfl | exact Y.loadAggO 10 rfl Try.isAgg32 Try.sizeOf32 rfl rfl rfl | exact Y.loadAggO 11 rfl Try.isAgg32 Try.sizeOf32 rfl rfl rfl | exact Y.loadAggO 12 rfl Try.isAgg32 Try.sizeOf32 rfl rfl rfl | exact Y.loadAggO 13 rfl Try.isAgg32 Try.sizeOf32 rfl rfl rfl | exact Y.loadAggO 18 rfl Try.isAgg32 Try.sizeOf32 rfl rfl rfl | exact Y.loadAggO 19 rfl Try.isAgg32 Try.sizeOf32 rfl rfl rfl | exact Y.loadAggO 20 rfl Try.isAgg32 Try.sizeOf32 rfl rfl rfl | exact Y.loadAggO 21 rfl Try.isAgg32 Try.sizeOf32 rfl rfl rfl) ?_
    refine Jp.y 125 rfl (want_as rfl rfl rfl rfl) rfl rfl Kp.true (Y.struct [(0, _), (1, _), (2, _)] [_, _, _] rfl rfl places32 Try.zeroValue32 rfl) ?_
    refine Jp.y 126 rfl (want_as rfl rfl rfl rfl) rfl rfl Kp.true (Y.eqlS (xs := (EvP.mk 1 65536 2).cells.toArray) (ys := (EvP.mk 1 65536 2).cells.toArray) (r := true) rfl rfl rfl ev_guard ev_fields ev_stood (fun w => by rw [ev_eq, (evEq_iff _ _).2 rfl])) ?_
    refine Jp.y 127 rfl (want_all rfl) rfl rfl Kp.true (Y.pickT rfl rfl rfl) ?_
    refine Jp.y 128 rfl (want_all rfl) rfl rfl Kp.true (Y.move rfl rfl) ?_
    refine Jp.y 129 rfl (want_as rfl rfl rfl rfl) rfl rfl Kp.true (by first | exact Y.loadAggO 2 rfl Try.isAgg32 Try.sizeOf32 rfl rfl rfl | exact Y.loadAggO 3 rfl Try.isAgg32 Try.sizeOf32 rfl rfl rfl | exact Y.loadAggO 4 rfl Try.isAgg32 Try.sizeOf32 rfl rfl rfl | exact Y.loadAggO 5 rfl Try.isAgg32 Try.sizeOf32 rfl rfl rfl | exact Y.loadAggO 6 rfl Try.isAgg32 Try.sizeOf32 rfl rfl rfl | exact Y.loadAggO 7 rfl Try.isAgg32 Try.sizeOf32 rfl rfl rfl | exact Y.loadAggO 8 rfl Try.isAgg32 Try.sizeOf32 rfl rfl rfl | exact Y.loadAggO 9 rfl Try.isAgg32 Try.sizeOf32 rfl rfl rfl | exact Y.loadAggO 10 rfl Try.isAgg32 Try.sizeOf32 rfl rfl rfl | exact Y.loadAggO 11 rfl Try.isAgg32 Try.sizeOf32 rfl rfl rfl | exact Y.loadAggO 12 rfl Try.isAgg32 Try.sizeOf32 rfl rfl rfl | exact Y.loadAggO 13 rfl Try.isAgg32 Try.sizeOf32 rfl rfl rfl | exact Y.loadAggO 18 rfl Try.isAgg32 Try.sizeOf32 rfl rfl rfl | exact Y.loadAggO 19 rfl Try.isAgg32 Try.sizeOf32 rfl rfl rfl | exact Y.loadAggO 20 rfl Try.isAgg32 Try.sizeOf32 rfl rfl rfl | exact Y.loadAggO 21 rfl Try.isAgg32 Try.sizeOf32 rfl rfl rfl) ?_
    refine Jp.y 130 rfl (want_as rfl rfl rfl rfl) rfl rfl Kp.true (Y.struct [(0, _), (1, _), (2, _)] [_, _, _] rfl rfl places32 Try.zeroValue32 rfl) ?_
    refine Jp.y 131 rfl (want_as rfl rfl rfl rfl) rfl rfl Kp.true (Y.eqlS (xs := (EvP.mk 1 4098 3).cells.toArray) (ys := (EvP.mk 1 4098 3).cells.toArray) (r := true) rfl rfl rfl ev_guard ev_fields ev_stood (fun w => by rw [ev_eq, (evEq_iff _ _).2 rfl])) ?_
    refine Jp.y 132 rfl (want_all rfl) rfl rfl Kp.true (Y.pickT rfl rfl rfl) ?_
    refine Jp.y 133 rfl (want_all rfl) rfl rfl Kp.true (Y.move rfl rfl) ?_
    refine Jp.y 134 rfl (want_as rfl rfl rfl rfl) rfl rfl Kp.true (Y.move rfl rfl) ?_
    refine Jp.slot 134 rfl (show _ = Value.bool true from rfl) ?_
    refine Jp.y 135 rfl (want_all rfl) rfl rfl Kp.true (Y.pickT rfl rfl rfl) ?_
    refine Jp.y 136 rfl (want_all rfl) rfl rfl Kp.true (Y.move rfl rfl) ?_
    refine Jp.y 137 rfl (want_as rfl rfl rfl rfl) rfl rfl Kp.true (Y.move rfl rfl) ?_
    refine Jp.y 138 rfl (want_as rfl rfl rfl rfl) rfl rfl Kp.true (by first | exact Y.loadAggO 2 rfl Try.isAgg29 Try.sizeOf29 rfl rfl rfl | exact Y.loadAggO 3 rfl Try.isAgg29 Try.sizeOf29 rfl rfl rfl | exact Y.loadAggO 4 rfl Try.isAgg29 Try.sizeOf29 rfl rfl rfl | exact Y.loadAggO 5 rfl Try.isAgg29 Try.sizeOf29 rfl rfl rfl | exact Y.loadAggO 6 rfl Try.isAgg29 Try.sizeOf29 rfl rfl rfl | exact Y.loadAggO 7 rfl Try.isAgg29 Try.sizeOf29 rfl rfl rfl | exact Y.loadAggO 8 rfl Try.isAgg29 Try.sizeOf29 rfl rfl rfl | exact Y.loadAggO 9 rfl Try.isAgg29 Try.sizeOf29 rfl rfl rfl | exact Y.loadAggO 10 rfl Try.isAgg29 Try.sizeOf29 rfl rfl rfl | exact Y.loadAggO 11 rfl Try.isAgg29 Try.sizeOf29 rfl rfl rfl | exact Y.loadAggO 12 rfl Try.isAgg29 Try.sizeOf29 rfl rfl rfl | exact Y.loadAggO 13 rfl Try.isAgg29 Try.sizeOf29 rfl rfl rfl | exact Y.loadAggO 18 rfl Try.isAgg29 Try.sizeOf29 rfl rfl rfl | exact Y.loadAggO 19 rfl Try.isAgg29 Try.sizeOf29 rfl rfl rfl | exact Y.loadAggO 20 rfl Try.isAgg29 Try.sizeOf29 rfl rfl rfl | exact Y.loadAggO 21 rfl Try.isAgg29 Try.sizeOf29 rfl rfl rfl) ?_
    refine Jp.call [0] [0] (fresh_spec b knM1 4096 2 2 d2 B2 (by omega)) 139 rfl (want_as rfl rfl rfl rfl) rfl rfl (Runs.fn rfl Try.call18 rfl) (by decide) (by decide) rfl trivial ?_
    rintro v15 ρ15 L15 ⟨rfl, rfl, rfl⟩
    refine ⟨rfl, fun hle15 => ⟨Kp.true, ?_⟩⟩
    rw [kn_g1]
    refine Jp.y 140 rfl (want_as rfl rfl rfl rfl) rfl rfl Kp.true (Y.not rfl rfl) ?_
    refine Jp.slot 140 rfl (show _ = Value.bool true from rfl) ?_
    refine Jp.y 141 rfl (want_all rfl) rfl rfl Kp.true (Y.pickT rfl rfl rfl) ?_
    refine Jp.y 142 rfl (want_all rfl) rfl rfl Kp.true (Y.move rfl rfl) ?_
    refine Jp.y 143 rfl (want_as rfl rfl rfl rfl) rfl rfl Kp.true (by first | exact Y.fieldAddrP rfl rfl Try.underlying29 rfl Try.sizeOf27 (by decide) (show _ + 1 = _ from rfl) | exact Y.fieldAddr rfl rfl Try.underlying29 rfl Try.sizeOf27 (by decide)) ?_
    refine Jp.y 144 rfl (want_as rfl rfl rfl rfl) rfl rfl Kp.true (by first | exact Y.loadO 2 rfl Try.isAgg27 rfl rfl rfl | exact Y.loadO 3 rfl Try.isAgg27 rfl rfl rfl | exact Y.loadO 4 rfl Try.isAgg27 rfl rfl rfl | exact Y.loadO 5 rfl Try.isAgg27 rfl rfl rfl | exact Y.loadO 6 rfl Try.isAgg27 rfl rfl rfl | exact Y.loadO 7 rfl Try.isAgg27 rfl rfl rfl | exact Y.loadO 8 rfl Try.isAgg27 rfl rfl rfl | exact Y.loadO 9 rfl Try.isAgg27 rfl rfl rfl | exact Y.loadO 10 rfl Try.isAgg27 rfl rfl rfl | exact Y.loadO 11 rfl Try.isAgg27 rfl rfl rfl | exact Y.loadO 12 rfl Try.isAgg27 rfl rfl rfl | exact Y.loadO 13 rfl Try.isAgg27 rfl rfl rfl | exact Y.loadO 18 rfl Try.isAgg27 rfl rfl rfl | exact Y.loadO 19 rfl Try.isAgg27 rfl rfl rfl | exact Y.loadO 20 rfl Try.isAgg27 rfl rfl rfl | exact Y.loadO 21 rfl Try.isAgg27 rfl rfl rfl) ?_
    refine Jp.y 145 rfl (want_as rfl rfl rfl rfl) rfl rfl Kp.true (Y.lenslice rfl Try.underlying27 rfl) ?_
    refine Jp.y 146 rfl (want_as rfl rfl rfl rfl) rfl rfl Kp.true (Y.eql rfl rfl rfl) ?_
    refine Jp.slot 146 rfl (show _ = Value.bool true from rfl) ?_
    refine Jp.y 147 rfl (want_all rfl) rfl rfl Kp.true (Y.pickT rfl rfl rfl) ?_
    refine Jp.y 148 rfl (want_all rfl) rfl rfl Kp.true (Y.move rfl rfl) ?_
    refine Jp.y 149 rfl (want_as rfl rfl rfl rfl) rfl rfl Kp.true (by first | exact Y.fieldAddrP rfl rfl Try.underlying29 rfl Try.sizeOf27 (by decide) (show _ + 1 = _ from rfl) | exact Y.fieldAddr rfl rfl Try.underlying29 rfl Try.sizeOf27 (by decide)) ?_
    refine Jp.y 150 rfl (want_as rfl rfl rfl rfl) rfl rfl Kp.true (by first | exact Y.loadO 2 rfl Try.isAgg27 rfl rfl rfl | exact Y.loadO 3 rfl Try.isAgg27 rfl rfl rfl | exact Y.loadO 4 rfl Try.isAgg27 rfl rfl rfl | exact Y.loadO 5 rfl Try.isAgg27 rfl rfl rfl | exact Y.loadO 6 rfl Try.isAgg27 rfl rfl rfl | exact Y.loadO 7 rfl Try.isAgg27 rfl rfl rfl | exact Y.loadO 8 rfl Try.isAgg27 rfl rfl rfl | exact Y.loadO 9 rfl Try.isAgg27 rfl rfl rfl | exact Y.loadO 10 rfl Try.isAgg27 rfl rfl rfl | exact Y.loadO 11 rfl Try.isAgg27 rfl rfl rfl | exact Y.loadO 12 rfl Try.isAgg27 rfl rfl rfl | exact Y.loadO 13 rfl Try.isAgg27 rfl rfl rfl | exact Y.loadO 18 rfl Try.isAgg27 rfl rfl rfl | exact Y.loadO 19 rfl Try.isAgg27 rfl rfl rfl | exact Y.loadO 20 rfl Try.isAgg27 rfl rfl rfl | exact Y.loadO 21 rfl Try.isAgg27 rfl rfl rfl) ?_
    refine Jp.y 151 rfl (want_as rfl rfl rfl rfl) rfl rfl Kp.true (Y.lenslice rfl Try.underlying27 rfl) ?_
    refine Jp.y 152 rfl (want_as rfl rfl rfl rfl) rfl rfl Kp.true (Y.eql rfl rfl rfl) ?_
    refine Jp.slot 152 rfl (show _ = Value.bool true from rfl) ?_
    refine Jp.y 153 rfl (want_all rfl) rfl rfl Kp.true (Y.pickT rfl rfl rfl) ?_
    refine Jp.y 0 rfl (want_all rfl) rfl rfl Kp.true (Y.assign rfl rfl) ?_
    refine Jp.done hK20 ?_
    refine Cd.ret [] rfl (res1 rfl rfl) trivial ⟨rfl, rfl⟩
  · skip
    refine Cd.loopK (G := Nat × Option Addr × Nat) (fun g => g.1 ≤ 64) (fun g => 64 - g.1) (fun _ => _) (fun g => [(16, .slice g.2.1 (knAll g.1).length g.2.2), (17, .int .i64 (g.1 : Int))]) [(1, _), (2, _), (3, _), (4, _), (5, _), (7, _), (8, _), (11, _), (13, _), (14, _), (15, _)] (fun g => [(31, OwnS 5 1 g.2.1 (knAll g.1).length g.2.2 (bytesV (knAll g.1)))]) [(0, _), (2, _), (3, _), (4, _), (5, _), (6, _), (7, _), (8, _), (9, _), (10, _), (11, _), (12, _), (13, _), (30, _)] ⟨0, none, 0⟩ (Nat.zero_le _) rfl ⟨rfl, rfl, trivial⟩ ⟨rfl, rfl, rfl, rfl, rfl, rfl, rfl, rfl, rfl, rfl, rfl, trivial⟩ ⟨rfl, trivial⟩ ⟨rfl, rfl, rfl, rfl, rfl, rfl, rfl, rfl, rfl, rfl, rfl, rfl, rfl, rfl, trivial⟩ (fun g KLa hok hLa => ?_)
    obtain ⟨i, B, d⟩ := g
    dsimp only at hok ⊢
    refine Cd.seq fun K21 hK21 => ?_
    refine Cd.seq fun K22 hK22 => ?_
    refine Cd.plain [(0, false), (1, false)] rfl rfl ?_
    refine Jp.y 64 rfl (want_all rfl) rfl rfl Kp.true (Y.move rfl rfl) ?_
    refine Jp.y 65 rfl (want_all rfl) rfl rfl Kp.true (Y.lss rfl rfl rfl) ?_
    refine Jp.done hK22 ?_
    refine Cd.condF' rfl (fun g65 => ?_) (fun g65 => ?_)
    · skip
      try simp only [decide_eq_false_iff_not, decide_eq_true_eq, Int.not_lt, Int.not_le, Bool.not_eq_false, Bool.not_eq_true, Bool.not_true, Bool.not_false, Bool.not_eq_true', Bool.not_eq_false', beq_eq_false_iff_ne, ne_eq, beq_iff_eq, bne_iff_ne, bne_eq_false_iff_eq, Classical.not_not] at g65
      have e : i = 64 := by omega
      rw [e]
      refine Cd.exit rfl hK15 ?_
      exact Cd.meet (hj1 ⟨B, d⟩ trivial) ⟨rfl, rfl, rfl, rfl, rfl, rfl, rfl, rfl, rfl, rfl, rfl, rfl, trivial⟩ ⟨rfl, rfl, rfl, rfl, rfl, rfl, rfl, rfl, rfl, rfl, rfl, rfl, rfl, rfl, rfl, trivial⟩
    try simp only [decide_eq_false_iff_not, decide_eq_true_eq, Int.not_lt, Int.not_le, Bool.not_eq_false, Bool.not_eq_true, Bool.not_true, Bool.not_false, Bool.not_eq_true', Bool.not_eq_false', beq_eq_false_iff_ne, ne_eq, beq_iff_eq, bne_iff_ne, bne_eq_false_iff_eq, Classical.not_not] at g65
    refine Cd.skip hK21 ?_
    refine Cd.seq fun K23 hK23 => ?_
    refine Cd.block ?_
    refine Cd.plain [(0, false), (1, false), (2, false), (3, false)] rfl rfl ?_
    have hi : i < 64 := by omega
    have hl1 := knAll_len i
    have hl2 := knAll_len (i + 1)
    refine Jp.y 68 rfl (want_all rfl) rfl rfl Kp.true (Y.move rfl rfl) ?_
    refine Jp.lit 69 32 [(0, _), (1, _), (2, _), (3, _)] [_, _, _, _] rfl (want_all rfl) rfl rfl rfl rfl Try.underlying38 Try.sizeOf5 Try.zeroValue5 rfl rfl rfl rfl rfl fun b32 => ⟨Kp.true, ?_⟩
    refine Jp.append 70 31 rfl (want_all rfl) rfl rfl rfl Try.underlying38 Try.underlying38 (.inl ⟨_, rfl⟩) Try.sizeOf5 Try.typeInfo5 Try.zeroValue5 rfl (by decide) rfl rfl rfl (Src.own 32 rfl) rfl ((knAll (i + 1)).length) (bytesV (knAll (i + 1))) (by first | omega | simp) (by rw [knAll_snoc]; simp [bytesV]) (by simp only [Try.t5]; omega) fun A7 c7 => ⟨Kp.true, ?_⟩
    refine Jp.y 16 rfl (want_all rfl) rfl rfl Kp.true (Y.assign rfl rfl) ?_
    refine Jp.over rfl hK23 ?_
    refine Cd.plain [(0, false), (1, false), (2, false)] rfl rfl ?_
    refine Jp.y 66 rfl (want_all rfl) rfl rfl Kp.true (Y.move rfl rfl) ?_
    refine Jp.y 67 rfl (want_all rfl) rfl rfl Kp.true (Y.add_ rfl rfl rfl (by first | exact wrap_i64 (by omega) (by omega) | rfl)) ?_
    refine Jp.y 17 rfl (want_all rfl) rfl rfl Kp.true (Y.assign rfl rfl) ?_
    rw [show (i : Int) + 1 = ((i + 1 : Nat) : Int) by omega]
    refine Jp.again hLa ⟨i + 1, A7, c7⟩ hi (by show 64 - (i + 1) < 64 - i; omega) rfl ⟨rfl, rfl, rfl, rfl, rfl, rfl, rfl, rfl, rfl, rfl, rfl, rfl, rfl, trivial⟩ ⟨rfl, rfl, rfl, rfl, rfl, rfl, rfl, rfl, rfl, rfl, rfl, rfl, rfl, rfl, rfl, trivial⟩
end Go.Proofs.Ytgmhijlcdadaeaa
