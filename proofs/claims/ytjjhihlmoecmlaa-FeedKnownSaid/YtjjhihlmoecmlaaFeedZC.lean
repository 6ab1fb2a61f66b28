/- Contracts: SameFeed; FeedBytes. -/
import Derived.Test.YtjjhihlmoecmlaaFeedZB
import Derived.Test.YtjjhihlmoecmlaaFeedZ
import Derived.Test.YtjjhihlmoecmlaaFeedP
import Derived.Test.YtjjhihlmoecmlaaFeedJ
set_option linter.unusedVariables false
set_option linter.unusedSimpArgs false
set_option maxRecDepth 100000
namespace Go.Proofs.Ytjjhihlmoecmlaa
open Go
theorem same_spec (f g : FeedG) (hcf : ∀ x ∈ f.clock.xs, 0 ≤ x ∧ x < 4294967296) (hcg : ∀ x ∈ g.clock.xs, 0 ≤ x ∧ x < 4294967296) : Spec Try.prog 42 #[.agg f.cells.toArray, .agg g.cells.toArray] (fun h => RdFeed f h ∧ RdFeed g h) []
    (fun ρ ρ' v L => ρ' = ρ ∧ (f.p = g.p → v = .bool true) ∧ L = []) := by
  refine Spec.of 29 Try.func42 rfl Try.ntmps42 [(0, _), (1, _)] rfl rfl ?_
  intro cx ρ hr h0
  obtain ⟨hr1, hr2⟩ := hr
  refine Cd.seq fun K1 hK1 => ?_
  refine Cd.plain [(0, false), (1, false), (2, false)] rfl rfl ?_
  refine Jp.box 0 2 rfl (want_all rfl) rfl rfl rfl rfl fun b0 => ⟨Kp.true, ?_⟩
  refine Jp.box 1 3 rfl (want_all rfl) rfl rfl rfl rfl fun b1 => ⟨Kp.true, ?_⟩
  refine Jp.y 4 rfl (want_all rfl) rfl rfl Kp.true (Y.assign rfl rfl) ?_
  refine Jp.done hK1 ?_
  refine Cd.seq fun K2 hK2 => ?_
  refine Cd.plain [(0, false), (1, false), (2, false), (3, false), (4, false), (5, false), (6, false)] rfl rfl ?_
  refine Jp.y 10 rfl (want_all rfl) rfl rfl Kp.true (by first | exact Y.loadAggO 0 rfl Try.isAgg30 Try.sizeOf30 rfl rfl rfl | exact Y.loadAggO 1 rfl Try.isAgg30 Try.sizeOf30 rfl rfl rfl | exact Y.loadAggO 0 rfl Try.isAgg30 Try.sizeOf30 rfl rfl rfl | exact Y.loadAggO 1 rfl Try.isAgg30 Try.sizeOf30 rfl rfl rfl) ?_
  refine Jp.call [] [20, 5] (putR_spec f hcf) 11 rfl (want_all rfl) rfl rfl (Runs.fn rfl Try.call41 rfl) (by decide) (by decide) rfl hr1 ?_
  rintro v1 ρ1 L1 ⟨rfl, A1, c1, rfl, rfl⟩
  refine ⟨rfl, fun hle1 => ⟨Kp.true, ?_⟩⟩
  refine Jp.y 9 rfl (want_all rfl) rfl rfl Kp.true (Y.move rfl rfl) ?_
  refine Jp.y 12 rfl (want_all rfl) rfl rfl Kp.true (Y.extract rfl rfl rfl) ?_
  refine Jp.y 13 rfl (want_all rfl) rfl rfl Kp.true (Y.extract rfl rfl rfl) ?_
  refine Jp.y 5 rfl (want_all rfl) rfl rfl Kp.true (Y.assign rfl rfl) ?_
  refine Jp.y 6 rfl (want_all rfl) rfl rfl Kp.true (Y.assign rfl rfl) ?_
  refine Jp.done hK2 ?_
  refine Cd.seq fun K3 hK3 => ?_
  refine Cd.plain [(0, false), (1, false), (2, false), (3, false), (4, false), (5, false), (6, false)] rfl rfl ?_
  refine Jp.y 15 rfl (want_all rfl) rfl rfl Kp.true (by first | exact Y.loadAggO 0 rfl Try.isAgg30 Try.sizeOf30 rfl rfl rfl | exact Y.loadAggO 1 rfl Try.isAgg30 Try.sizeOf30 rfl rfl rfl | exact Y.loadAggO 0 rfl Try.isAgg30 Try.sizeOf30 rfl rfl rfl | exact Y.loadAggO 1 rfl Try.isAgg30 Try.sizeOf30 rfl rfl rfl) ?_
  refine Jp.call [] [20, 7] (putR_spec g hcg) 16 rfl (want_all rfl) rfl rfl (Runs.fn rfl Try.call41 rfl) (by decide) (by decide) rfl hr2 ?_
  rintro v2 ρ2 L2 ⟨rfl, A2, c2, rfl, rfl⟩
  refine ⟨rfl, fun hle2 => ⟨Kp.true, ?_⟩⟩
  refine Jp.y 14 rfl (want_all rfl) rfl rfl Kp.true (Y.move rfl rfl) ?_
  refine Jp.y 17 rfl (want_all rfl) rfl rfl Kp.true (Y.extract rfl rfl rfl) ?_
  refine Jp.y 18 rfl (want_all rfl) rfl rfl Kp.true (Y.extract rfl rfl rfl) ?_
  refine Jp.y 7 rfl (want_all rfl) rfl rfl Kp.true (Y.assign rfl rfl) ?_
  refine Jp.y 8 rfl (want_all rfl) rfl rfl Kp.true (Y.assign rfl rfl) ?_
  refine Jp.done hK3 ?_
  refine Cd.seq fun K4 hK4 => ?_
  refine Cd.plain [(0, false), (1, false), (2, false), (3, false), (4, false), (5, false), (6, false), (7, false), (8, false), (9, false), (10, false)] rfl rfl ?_
  refine Jp.y 19 rfl (want_all rfl) rfl rfl Kp.true (Y.move rfl rfl) ?_
  refine Jp.y 20 rfl (want_all rfl) rfl rfl Kp.true (Y.move rfl rfl) ?_
  refine Jp.y 21 rfl (want_all rfl) rfl rfl Kp.true (Y.beql rfl Try.underlying4 rfl rfl) ?_
  refine Jp.y 22 rfl (want_all rfl) rfl rfl Kp.true (Y.move rfl rfl) ?_
  refine Jp.splitF 22 rfl (fun g22 => ?_) (fun g22 => ?_)
  · skip
    refine Jp.skip 23 rfl (want_as rfl rfl rfl rfl) rfl rfl Kp.true ?_
    refine Jp.skip 24 rfl (want_as rfl rfl rfl rfl) rfl rfl Kp.true ?_
    refine Jp.skip 25 rfl (want_as rfl rfl rfl rfl) rfl rfl Kp.true ?_
    refine Jp.skip 26 rfl (want_as rfl rfl rfl rfl) rfl rfl Kp.true ?_
    refine Jp.skip 27 rfl (want_as rfl rfl rfl rfl) rfl rfl Kp.true ?_
    refine Jp.y 28 rfl (want_all rfl) rfl rfl Kp.true (Y.pickF rfl rfl rfl) ?_
    refine Jp.y 4 rfl (want_all rfl) rfl rfl Kp.true (Y.assign rfl rfl) ?_
    refine Jp.done hK4 ?_
    refine Cd.ret [] rfl (res1 rfl rfl) trivial ⟨rfl, fun e => absurd g22 (by rw [e]; simp), rfl⟩
  try simp only [decide_eq_false_iff_not, decide_eq_true_eq, Int.not_lt, Int.not_le, Bool.not_eq_false, Bool.not_eq_true, Bool.not_true, Bool.not_false, Bool.not_eq_true', Bool.not_eq_false', beq_eq_false_iff_ne, ne_eq, beq_iff_eq, bne_iff_ne, bne_eq_false_iff_eq, Classical.not_not] at g22
  refine Jp.y 23 rfl (want_as rfl rfl rfl rfl) rfl rfl Kp.true (Y.move rfl rfl) ?_
  refine Jp.y 24 rfl (want_as rfl rfl rfl rfl) rfl rfl Kp.true (Y.toStr _ rfl rfl Try.underlying26 Try.underlying9 Try.underlying5 ⟨_, _, rfl⟩ (Src.own 5 rfl)) ?_
  refine Jp.y 25 rfl (want_as rfl rfl rfl rfl) rfl rfl Kp.true (Y.move rfl rfl) ?_
  refine Jp.y 26 rfl (want_as rfl rfl rfl rfl) rfl rfl Kp.true (Y.toStr _ rfl rfl Try.underlying26 Try.underlying9 Try.underlying5 ⟨_, _, rfl⟩ (Src.own 7 rfl)) ?_
  refine Jp.y 27 rfl (want_as rfl rfl rfl rfl) rfl rfl Kp.true (Y.streql rfl rfl rfl) ?_
  refine Jp.y 28 rfl (want_all rfl) rfl rfl Kp.true (Y.pickT rfl rfl rfl) ?_
  refine Jp.y 4 rfl (want_all rfl) rfl rfl Kp.true (Y.assign rfl rfl) ?_
  refine Jp.done hK4 ?_
  refine Cd.ret [] rfl (res1 rfl rfl) trivial ⟨rfl, fun e => congrArg Value.bool (by rw [e]; simp), rfl⟩
theorem feedBytes_spec (s : Sl UInt8) (f : FeedG) (hcf : ∀ x ∈ f.clock.xs, 0 ≤ x ∧ x < 4294967296) : Spec Try.prog 10 #[s.v, .agg f.cells.toArray] (fun h => RdB s h ∧ RdFeed f h) [] (fun ρ ρ' v L => v = .bool true ∧ L = []) := by
  obtain ⟨A, c, xs⟩ := s
  dsimp only [Sl.v]
  refine Spec.of 86 Try.func10 rfl Try.ntmps10 [(0, _), (1, _)] rfl rfl ?_
  intro cx ρ hr h0
  obtain ⟨hrb, hr⟩ := hr
  refine Cd.seq fun K5 hK5 => ?_
  refine Cd.plain [(0, false), (1, false)] rfl rfl ?_
  refine Jp.box 0 3 rfl (want_all rfl) rfl rfl rfl rfl fun b0 => ⟨Kp.true, ?_⟩
  refine Jp.y 4 rfl (want_all rfl) rfl rfl Kp.true (Y.assign rfl rfl) ?_
  refine Jp.done hK5 ?_
  refine Cd.seq fun K6 hK6 => ?_
  refine Cd.seq fun K7 hK7 => ?_
  refine Cd.plain [(0, false), (1, false)] rfl rfl ?_
  refine Jp.call [] [] f15_spec 13 rfl (want_all rfl) rfl rfl (Runs.fn rfl Try.call15 rfl) (by decide) (by decide) rfl trivial ?_
  rintro v1 ρ1 L1 ⟨rfl, rfl⟩
  refine ⟨rfl, fun hle1 => ⟨Kp.true, ?_⟩⟩
  have hr := RdFeed.up _ _ _ hle1 hr
  have hrb := RdB.up _ _ _ hle1 hrb
  refine Jp.y 14 rfl (want_all rfl) rfl rfl Kp.true (Y.not rfl rfl) ?_
  refine Jp.done hK7 ?_
  refine Cd.cond rfl (fun g14 => ?_) (fun g14 => ?_)
  · skip
    exact absurd g14 (by simp)
  try simp only [decide_eq_false_iff_not, decide_eq_true_eq, Int.not_lt, Int.not_le, Bool.not_eq_false, Bool.not_eq_true, Bool.not_true, Bool.not_false, Bool.not_eq_true', Bool.not_eq_false', beq_eq_false_iff_ne, ne_eq, beq_iff_eq, bne_iff_ne, bne_eq_false_iff_eq, Classical.not_not] at g14
  refine Cd.skip hK6 ?_
  refine Cd.seq fun K8 hK8 => ?_
  refine Cd.seq fun K9 hK9 => ?_
  refine Cd.plain [(0, false), (1, false), (2, false), (3, false), (4, false), (5, false), (6, false)] rfl rfl ?_
  refine Jp.y 15 rfl (want_all rfl) rfl rfl Kp.true (Y.move rfl rfl) ?_
  refine Jp.y 16 rfl (want_all rfl) rfl rfl Kp.true (Y.lenslice rfl Try.underlying26 rfl) ?_
  refine Jp.y 17 rfl (want_all rfl) rfl rfl Kp.true (Y.gtr rfl rfl rfl) ?_
  refine Jp.y 18 rfl (want_all rfl) rfl rfl Kp.true (Y.move rfl rfl) ?_
  refine Jp.split 18 rfl (fun g18 => ?_) (fun g18 => ?_)
  · skip
    refine Jp.skip 19 rfl (want_as rfl rfl rfl rfl) rfl rfl Kp.true ?_
    refine Jp.skip 20 rfl (want_as rfl rfl rfl rfl) rfl rfl Kp.true ?_
    refine Jp.y 21 rfl (want_all rfl) rfl rfl Kp.true (Y.pickT rfl rfl rfl) ?_
    refine Jp.done hK9 ?_
    refine Cd.condT rfl ?_
    refine Cd.seq fun K10 hK10 => ?_
    refine Cd.plain [(0, false)] rfl rfl ?_
    refine Jp.y 4 rfl (want_all rfl) rfl rfl Kp.true (Y.assign rfl rfl) ?_
    refine Jp.done hK10 ?_
    refine Cd.ret [] rfl (res1 rfl rfl) trivial ⟨rfl, rfl⟩
  try simp only [decide_eq_false_iff_not, decide_eq_true_eq, Int.not_lt, Int.not_le, Bool.not_eq_false, Bool.not_eq_true, Bool.not_true, Bool.not_false, Bool.not_eq_true', Bool.not_eq_false', beq_eq_false_iff_ne, ne_eq, beq_iff_eq, bne_iff_ne, bne_eq_false_iff_eq, Classical.not_not] at g18
  refine Jp.y 19 rfl (want_as rfl rfl rfl rfl) rfl rfl Kp.true (by first | exact Y.loadAggO 0 rfl Try.isAgg35 Try.sizeOf35 rfl rfl rfl | exact Y.loadAggO 0 rfl Try.isAgg35 Try.sizeOf35 rfl rfl rfl) ?_
  refine Jp.call [] [] (f21_spec f) 20 rfl (want_as rfl rfl rfl rfl) rfl rfl (Runs.fn rfl Try.call21 rfl) (by decide) (by decide) rfl hr ?_
  rintro v2 ρ2 L2 ⟨rfl, ⟨gr, rfl, hgr⟩, rfl⟩
  refine ⟨rfl, fun hle2 => ⟨Kp.true, ?_⟩⟩
  refine Jp.y 21 rfl (want_all rfl) rfl rfl Kp.true (Y.pickF rfl rfl rfl) ?_
  refine Jp.done hK9 ?_
  refine Cd.cond rfl (fun g21 => ?_) (fun g21 => ?_)
  · skip
    refine Cd.seq fun K11 hK11 => ?_
    refine Cd.plain [(0, false)] rfl rfl ?_
    refine Jp.y 4 rfl (want_all rfl) rfl rfl Kp.true (Y.assign rfl rfl) ?_
    refine Jp.done hK11 ?_
    refine Cd.ret [] rfl (res1 rfl rfl) trivial ⟨rfl, rfl⟩
  try simp only [decide_eq_false_iff_not, decide_eq_true_eq, Int.not_lt, Int.not_le, Bool.not_eq_false, Bool.not_eq_true, Bool.not_true, Bool.not_false, Bool.not_eq_true', Bool.not_eq_false', beq_eq_false_iff_ne, ne_eq, beq_iff_eq, bne_iff_ne, bne_eq_false_iff_eq, Classical.not_not] at g21
  refine Cd.skip hK8 ?_
  refine Cd.seq fun K12 hK12 => ?_
  refine Cd.plain [(0, false), (1, false), (2, false), (3, false), (4, false), (5, false), (6, false), (7, false)] rfl rfl ?_
  have hf10 := hgr g21
  have hl : xs.length ≤ 3000 := by omega
  refine Jp.y 23 rfl (want_all rfl) rfl rfl Kp.true (Y.move rfl rfl) ?_
  refine Jp.call [] [] (get_spec ⟨A, c, xs⟩) 24 rfl (want_all rfl) rfl rfl (Runs.fn rfl Try.call38 rfl) (by decide) (by decide) rfl hrb ?_
  rintro v3 ρ3 L3 ⟨g1, rfl, rfl, hg1, hp1, hc1⟩
  refine ⟨rfl, fun hle3 => ⟨Kp.true, ?_⟩⟩
  have hr := RdFeed.up _ _ _ hle3 hr
  have hrb := RdB.up _ _ _ hle3 hrb
  refine Jp.y 22 rfl (want_all rfl) rfl rfl Kp.true (Y.move rfl rfl) ?_
  refine Jp.y 25 rfl (want_all rfl) rfl rfl Kp.true (Y.extract rfl rfl rfl) ?_
  refine Jp.y 26 rfl (want_all rfl) rfl rfl Kp.true (Y.extract rfl rfl rfl) ?_
  refine Jp.alloc 1 5 rfl (want_all rfl) rfl rfl rfl Try.zeroValue35 fun b1 => ⟨Kp.true, ?_⟩
  first | refine Jp.storeAgg 0 rfl (want_all rfl) rfl rfl Try.sizeOf35 rfl rfl rfl rfl rfl rfl (fun k _ _ => noFr0 k) Kp.true ?_ | refine Jp.storeAgg 1 rfl (want_all rfl) rfl rfl Try.sizeOf35 rfl rfl rfl rfl rfl rfl (fun k _ _ => noFr0 k) Kp.true ?_
  refine Jp.y 6 rfl (want_all rfl) rfl rfl Kp.true (Y.assign rfl rfl) ?_
  refine Jp.done hK12 ?_
  refine Cd.seq fun K13 hK13 => ?_
  refine Cd.plain [(0, false), (1, false), (2, false), (3, false), (4, false), (5, false), (6, false), (7, false)] rfl rfl ?_
  refine Jp.y 28 rfl (want_all rfl) rfl rfl Kp.true (Y.move rfl rfl) ?_
  refine Jp.call [] [] (getR_spec ⟨A, c, xs⟩ (by show xs.length ≤ 1000000; omega)) 29 rfl (want_all rfl) rfl rfl (Runs.fn rfl Try.call39 rfl) (by decide) (by decide) rfl hrb ?_
  rintro v4 ρ4 L4 ⟨g2, rfl, rfl, hg2, hp2, hc2⟩
  refine ⟨rfl, fun hle4 => ⟨Kp.true, ?_⟩⟩
  have hr := RdFeed.up _ _ _ hle4 hr
  have hg1 := RdFeed.up _ _ _ hle4 hg1
  have hpp : g1.p = g2.p := by rw [hp1, hp2, getP_getR]
  have hEB : (getErr xs = 0 ∧ (getR xs).isSome = true) ∨ (getErr xs = 3 ∧ (getR xs).isSome = false) := by
    rw [← getP_getR]
    cases hG : getP xs with
    | none => exact .inr ⟨getErr_none hG, rfl⟩
    | some F => exact .inl ⟨getErr_some hG, rfl⟩
  have hn1 : g1.files.xs.length ≤ 10 := by
    have h1 : g1.p.files.length = g1.files.xs.length := by simp [FeedG.p]
    rw [← h1, hp1]
    show ((getP xs).getD feedP0).files.length ≤ 10
    cases hG : getP xs with
    | none => show 0 ≤ 10; omega
    | some F => have := (good_lens (getP_some.1 hG).2).2.2.2.1; show F.files.length ≤ 10; omega
  refine Jp.y 27 rfl (want_all rfl) rfl rfl Kp.true (Y.move rfl rfl) ?_
  refine Jp.y 30 rfl (want_all rfl) rfl rfl Kp.true (Y.extract rfl rfl rfl) ?_
  refine Jp.y 31 rfl (want_all rfl) rfl rfl Kp.true (Y.extract rfl rfl rfl) ?_
  refine Jp.alloc 2 7 rfl (want_all rfl) rfl rfl rfl Try.zeroValue30 fun b2 => ⟨Kp.true, ?_⟩
  first | refine Jp.storeAgg 1 rfl (want_all rfl) rfl rfl Try.sizeOf30 rfl rfl rfl rfl rfl rfl (fun k _ _ => noFr0 k) Kp.true ?_ | refine Jp.storeAgg 0 rfl (want_all rfl) rfl rfl Try.sizeOf30 rfl rfl rfl rfl rfl rfl (fun k _ _ => noFr0 k) Kp.true ?_ | refine Jp.storeAgg 2 rfl (want_all rfl) rfl rfl Try.sizeOf30 rfl rfl rfl rfl rfl rfl (fun k _ _ => noFr0 k) Kp.true ?_
  refine Jp.y 8 rfl (want_all rfl) rfl rfl Kp.true (Y.assign rfl rfl) ?_
  refine Jp.done hK13 ?_
  refine Cd.seq fun K14 hK14 => ?_
  refine Cd.plain [(0, false), (1, false), (2, false), (3, false), (4, false), (5, false), (6, false)] rfl rfl ?_
  refine Jp.y 33 rfl (want_all rfl) rfl rfl Kp.true (by first | exact Y.loadAggO 0 rfl Try.isAgg35 Try.sizeOf35 rfl rfl rfl | exact Y.loadAggO 1 rfl Try.isAgg35 Try.sizeOf35 rfl rfl rfl | exact Y.loadAggO 2 rfl Try.isAgg35 Try.sizeOf35 rfl rfl rfl) ?_
  refine Jp.call [] [20, 3] (put_spec f hcf) 34 rfl (want_all rfl) rfl rfl (Runs.fn rfl Try.call40 rfl) (by decide) (by decide) rfl hr ?_
  rintro v5 ρ5 L5 ⟨rfl, A5, c5, rfl, rfl⟩
  refine ⟨rfl, fun hle5 => ⟨Kp.true, ?_⟩⟩
  refine Jp.y 32 rfl (want_all rfl) rfl rfl Kp.true (Y.move rfl rfl) ?_
  refine Jp.y 35 rfl (want_all rfl) rfl rfl Kp.true (Y.extract rfl rfl rfl) ?_
  refine Jp.y 36 rfl (want_all rfl) rfl rfl Kp.true (Y.extract rfl rfl rfl) ?_
  refine Jp.y 9 rfl (want_all rfl) rfl rfl Kp.true (Y.assign rfl rfl) ?_
  refine Jp.y 10 rfl (want_all rfl) rfl rfl Kp.true (Y.assign rfl rfl) ?_
  refine Jp.done hK14 ?_
  refine Cd.seq fun K15 hK15 => ?_
  refine Cd.plain [(0, false), (1, false), (2, false), (3, false), (4, false), (5, false), (6, false), (7, false)] rfl rfl ?_
  refine Jp.y 38 rfl (want_all rfl) rfl rfl Kp.true (by first | exact Y.loadAggO 0 rfl Try.isAgg35 Try.sizeOf35 rfl rfl rfl | exact Y.loadAggO 1 rfl Try.isAgg35 Try.sizeOf35 rfl rfl rfl | exact Y.loadAggO 2 rfl Try.isAgg35 Try.sizeOf35 rfl rfl rfl) ?_
  refine Jp.call [] [4] (f23_spec f hf10) 39 rfl (want_all rfl) rfl rfl (Runs.fn rfl Try.call23 rfl) (by decide) (by decide) rfl hr ?_
  rintro v6 ρ6 L6 ⟨rfl, A6, c6, rfl, rfl⟩
  refine ⟨rfl, fun hle6 => ⟨Kp.true, ?_⟩⟩
  refine Jp.freeze (i := 4) rfl (OwnS.up _ _ _ _ _ _) fun ρ7 l7 q7 => ?_
  have hr := RdFeed.up _ _ _ l7 hr
  have hg1 := RdFeed.up _ _ _ l7 hg1
  have hg2 := RdFeed.up _ _ _ l7 hg2
  have hrf : RdFeed ⟨f.args, f.input, f.short, f.random, f.clock, ⟨A6, c6, f.files.xs⟩⟩ ρ7 := { hr with files := ⟨q7.rd, hr.files.2⟩ }
  refine Jp.call [] [20, 5] (putR_spec ⟨f.args, f.input, f.short, f.random, f.clock, ⟨A6, c6, f.files.xs⟩⟩ hcf) 40 rfl (want_all rfl) rfl rfl (Runs.fn rfl Try.call41 rfl) (by decide) (by decide) rfl hrf ?_
  rintro v8 ρ8 L8 ⟨rfl, A8, c8, rfl, rfl⟩
  refine ⟨rfl, fun hle8 => ⟨Kp.true, ?_⟩⟩
  have hfp : FeedG.p ⟨f.args, f.input, f.short, f.random, f.clock, ⟨A6, c6, f.files.xs⟩⟩ = f.p := rfl
  rw [hfp]
  obtain ⟨F, hF⟩ : ∃ F, f.p = F := ⟨_, rfl⟩
  rw [hF]
  refine Jp.y 37 rfl (want_all rfl) rfl rfl Kp.true (Y.move rfl rfl) ?_
  refine Jp.y 41 rfl (want_all rfl) rfl rfl Kp.true (Y.extract rfl rfl rfl) ?_
  refine Jp.y 42 rfl (want_all rfl) rfl rfl Kp.true (Y.extract rfl rfl rfl) ?_
  refine Jp.y 11 rfl (want_all rfl) rfl rfl Kp.true (Y.assign rfl rfl) ?_
  refine Jp.y 12 rfl (want_all rfl) rfl rfl Kp.true (Y.assign rfl rfl) ?_
  refine Jp.done hK15 ?_
  refine Cd.seq fun K16 hK16 => ?_
  refine Cd.drawn [(0, _), (1, _), (2, _), (3, _), (5, _)] ⟨rfl, rfl, rfl, rfl, rfl, trivial⟩ [(0, true), (1, true), (2, true), (3, true), (4, true), (5, true), (6, true), (7, true), (8, true), (9, true), (10, true), (11, true), (12, true), (14, true), (13, false), (15, false), (16, true), (17, true), (18, true), (19, true), (20, true), (21, true), (22, true), (23, true), (24, true), (25, true), (26, true), (27, true), (28, true), (29, true), (30, true), (31, true), (32, true), (33, true), (34, true), (35, true), (36, true), (37, true), (38, true), (40, true), (39, false), (41, true), (42, true), (43, true)] follows (by kernel_rfl) (fun hrl => ?_)
  rcases hEB with ⟨e1, e2⟩ | ⟨e1, e2⟩
  · rw [e1, e2]
    rcases hY : good F with _ | _
    · rw [if_neg (by simp)]
      refine Jp.q 43 rfl (want_all rfl) rfl rfl (Y.move rfl rfl) ?_
      refine Jp.q 44 rfl (want_all rfl) rfl rfl (Y.eql rfl rfl rfl) ?_
      refine Jp.q 45 rfl (want_all rfl) rfl rfl (Y.move rfl rfl) ?_
      refine Jp.q 46 rfl (want_all rfl) rfl rfl (Y.beql rfl Try.underlying4 rfl rfl) ?_
      refine Jp.q 47 rfl (want_all rfl) rfl rfl (Y.move rfl rfl) ?_
      refine Jp.splitF 47 rfl (fun g47 => ?_) (fun g47 => ?_)
      · skip
        exact absurd g47 (by simp)
      try simp only [decide_eq_false_iff_not, decide_eq_true_eq, Int.not_lt, Int.not_le, Bool.not_eq_false, Bool.not_eq_true, Bool.not_true, Bool.not_false, Bool.not_eq_true', Bool.not_eq_false', beq_eq_false_iff_ne, ne_eq, beq_iff_eq, bne_iff_ne, bne_eq_false_iff_eq, Classical.not_not] at g47
      refine Jp.q 48 rfl (want_as rfl rfl rfl rfl) rfl rfl (Y.move rfl rfl) ?_
      refine Jp.q 49 rfl (want_as rfl rfl rfl rfl) rfl rfl (Y.move rfl rfl) ?_
      refine Jp.splitF 49 rfl (fun g49 => ?_) (fun g49 => ?_)
      · skip
        exact absurd g49 (by simp)
      try simp only [decide_eq_false_iff_not, decide_eq_true_eq, Int.not_lt, Int.not_le, Bool.not_eq_false, Bool.not_eq_true, Bool.not_true, Bool.not_false, Bool.not_eq_true', Bool.not_eq_false', beq_eq_false_iff_ne, ne_eq, beq_iff_eq, bne_iff_ne, bne_eq_false_iff_eq, Classical.not_not] at g49
      refine Jp.qskip 50 rfl (want_as rfl rfl rfl rfl) rfl rfl ?_
      refine Jp.qskip 51 rfl (want_as rfl rfl rfl rfl) rfl rfl ?_
      refine Jp.q 52 rfl (want_as rfl rfl rfl rfl) rfl rfl (Y.pickT rfl rfl rfl) ?_
      refine Jp.q 53 rfl (want_all rfl) rfl rfl (Y.pickT rfl rfl rfl) ?_
      refine Jp.q 54 rfl (want_all rfl) rfl rfl (Y.move rfl rfl) ?_
      refine Jp.q 55 rfl (want_as rfl rfl rfl rfl) rfl rfl (by first | exact Y.loadAggO 0 rfl Try.isAgg35 Try.sizeOf35 rfl rfl rfl | exact Y.loadAggO 1 rfl Try.isAgg35 Try.sizeOf35 rfl rfl rfl | exact Y.loadAggO 2 rfl Try.isAgg35 Try.sizeOf35 rfl rfl rfl) ?_
      refine Jp.q 57 rfl (want_as rfl rfl rfl rfl) rfl rfl (by first | exact Y.loadAggO 0 rfl Try.isAgg30 Try.sizeOf30 rfl rfl rfl | exact Y.loadAggO 1 rfl Try.isAgg30 Try.sizeOf30 rfl rfl rfl | exact Y.loadAggO 2 rfl Try.isAgg30 Try.sizeOf30 rfl rfl rfl) ?_
      refine Jp.call [] [4] (f23_spec g1 hn1) 56 rfl (want_as rfl rfl rfl rfl) rfl rfl (Runs.fn rfl Try.call23 rfl) (by decide) (by decide) rfl hg1 ?_
      rintro v9 ρ9 L9 ⟨rfl, A9, c9, rfl, rfl⟩
      refine ⟨rfl, fun hle9 => ⟨(Kp.st ⟨rfl, rfl, rfl, rfl, rfl, trivial⟩), ?_⟩⟩
      refine Jp.freeze (i := 4) rfl (OwnS.up _ _ _ _ _ _) fun ρ10 l10 q10 => ?_
      have hr := RdFeed.up _ _ _ l10 hr
      have hg1 := RdFeed.up _ _ _ l10 hg1
      have hg2 := RdFeed.up _ _ _ l10 hg2
      have hrg : RdFeed ⟨g1.args, g1.input, g1.short, g1.random, g1.clock, ⟨A9, c9, g1.files.xs⟩⟩ ρ10 := { hg1 with files := ⟨q10.rd, hg1.files.2⟩ }
      refine Jp.call [] [] (same_spec ⟨g1.args, g1.input, g1.short, g1.random, g1.clock, ⟨A9, c9, g1.files.xs⟩⟩ g2 hc1 hc2) 58 rfl (want_as rfl rfl rfl rfl) rfl rfl (Runs.fn rfl Try.call42 rfl) (by decide) (by decide) rfl ⟨hrg, hg2⟩ ?_
      rintro v11 ρ11 L11 ⟨rfl, hsm, rfl⟩
      refine ⟨rfl, fun hle11 => ⟨(Kp.st' ⟨rfl, rfl, rfl, rfl, rfl, trivial⟩ l10 hrl), ?_⟩⟩
      obtain rfl := hsm hpp
      refine Jp.q 59 rfl (want_all rfl) rfl rfl (Y.pickT rfl rfl rfl) ?_
      refine Jp.q 60 rfl (want_all rfl) rfl rfl (Y.move rfl rfl) ?_
      refine Jp.splitF 60 rfl (fun g60 => ?_) (fun g60 => ?_)
      · skip
        exact absurd g60 (by simp)
      try simp only [decide_eq_false_iff_not, decide_eq_true_eq, Int.not_lt, Int.not_le, Bool.not_eq_false, Bool.not_eq_true, Bool.not_true, Bool.not_false, Bool.not_eq_true', Bool.not_eq_false', beq_eq_false_iff_ne, ne_eq, beq_iff_eq, bne_iff_ne, bne_eq_false_iff_eq, Classical.not_not] at g60
      refine Jp.q 61 rfl (want_as rfl rfl rfl rfl) rfl rfl (Y.move rfl rfl) ?_
      refine Jp.q 62 rfl (want_as rfl rfl rfl rfl) rfl rfl (Y.eql rfl rfl rfl) ?_
      refine Jp.q 63 rfl (want_as rfl rfl rfl rfl) rfl rfl (Y.move rfl rfl) ?_
      refine Jp.q 64 rfl (want_as rfl rfl rfl rfl) rfl rfl (Y.beql rfl Try.underlying4 rfl rfl) ?_
      refine Jp.q 65 rfl (want_all rfl) rfl rfl (Y.pickT rfl rfl rfl) ?_
      refine Jp.q 66 rfl (want_all rfl) rfl rfl (Y.move rfl rfl) ?_
      refine Jp.splitF 66 rfl (fun g66 => ?_) (fun g66 => ?_)
      · skip
        exact absurd g66 (by simp)
      try simp only [decide_eq_false_iff_not, decide_eq_true_eq, Int.not_lt, Int.not_le, Bool.not_eq_false, Bool.not_eq_true, Bool.not_true, Bool.not_false, Bool.not_eq_true', Bool.not_eq_false', beq_eq_false_iff_ne, ne_eq, beq_iff_eq, bne_iff_ne, bne_eq_false_iff_eq, Classical.not_not] at g66
      refine Jp.q 67 rfl (want_as rfl rfl rfl rfl) rfl rfl (Y.move rfl rfl) ?_
      refine Jp.q 68 rfl (want_as rfl rfl rfl rfl) rfl rfl (Y.move rfl rfl) ?_
      refine Jp.split 68 rfl (fun g68 => ?_) (fun g68 => ?_)
      · skip
        exact absurd g68 (by simp)
      try simp only [decide_eq_false_iff_not, decide_eq_true_eq, Int.not_lt, Int.not_le, Bool.not_eq_false, Bool.not_eq_true, Bool.not_true, Bool.not_false, Bool.not_eq_true', Bool.not_eq_false', beq_eq_false_iff_ne, ne_eq, beq_iff_eq, bne_iff_ne, bne_eq_false_iff_eq, Classical.not_not] at g68
      refine Jp.q 69 rfl (want_as rfl rfl rfl rfl) rfl rfl (Y.move rfl rfl) ?_
      refine Jp.q 70 rfl (want_as rfl rfl rfl rfl) rfl rfl (Y.eql rfl rfl rfl) ?_
      refine Jp.q 71 rfl (want_as rfl rfl rfl rfl) rfl rfl (Y.pickF rfl rfl rfl) ?_
      refine Jp.q 72 rfl (want_all rfl) rfl rfl (Y.pickT rfl rfl rfl) ?_
      refine Jp.q 73 rfl (want_all rfl) rfl rfl (Y.move rfl rfl) ?_
      refine Jp.splitF 73 rfl (fun g73 => ?_) (fun g73 => ?_)
      · skip
        exact absurd g73 (by simp)
      try simp only [decide_eq_false_iff_not, decide_eq_true_eq, Int.not_lt, Int.not_le, Bool.not_eq_false, Bool.not_eq_true, Bool.not_true, Bool.not_false, Bool.not_eq_true', Bool.not_eq_false', beq_eq_false_iff_ne, ne_eq, beq_iff_eq, bne_iff_ne, bne_eq_false_iff_eq, Classical.not_not] at g73
      refine Jp.q 74 rfl (want_as rfl rfl rfl rfl) rfl rfl (Y.move rfl rfl) ?_
      refine Jp.q 75 rfl (want_as rfl rfl rfl rfl) rfl rfl (Y.toStr _ rfl rfl Try.underlying26 Try.underlying9 Try.underlying5 ⟨_, _, rfl⟩ (Src.own 3 rfl)) ?_
      refine Jp.q 76 rfl (want_as rfl rfl rfl rfl) rfl rfl (Y.move rfl rfl) ?_
      refine Jp.q 77 rfl (want_as rfl rfl rfl rfl) rfl rfl (Y.toStr _ rfl rfl Try.underlying26 Try.underlying9 Try.underlying5 ⟨_, _, rfl⟩ (Src.own 5 rfl)) ?_
      refine Jp.q 78 rfl (want_as rfl rfl rfl rfl) rfl rfl (Y.streql rfl rfl rfl) ?_
      refine Jp.q 79 rfl (want_all rfl) rfl rfl (Y.pickT rfl rfl rfl) ?_
      refine Jp.q 80 rfl (want_all rfl) rfl rfl (Y.move rfl rfl) ?_
      refine Jp.splitF 80 rfl (fun g80 => ?_) (fun g80 => ?_)
      · skip
        exact absurd g80 (by simp)
      try simp only [decide_eq_false_iff_not, decide_eq_true_eq, Int.not_lt, Int.not_le, Bool.not_eq_false, Bool.not_eq_true, Bool.not_true, Bool.not_false, Bool.not_eq_true', Bool.not_eq_false', beq_eq_false_iff_ne, ne_eq, beq_iff_eq, bne_iff_ne, bne_eq_false_iff_eq, Classical.not_not] at g80
      refine Jp.q 81 rfl (want_as rfl rfl rfl rfl) rfl rfl (by first | exact Y.loadAggO 0 rfl Try.isAgg35 Try.sizeOf35 rfl rfl rfl | exact Y.loadAggO 1 rfl Try.isAgg35 Try.sizeOf35 rfl rfl rfl | exact Y.loadAggO 2 rfl Try.isAgg35 Try.sizeOf35 rfl rfl rfl) ?_
      refine Jp.q 83 rfl (want_as rfl rfl rfl rfl) rfl rfl (Y.move rfl rfl) ?_
      refine Jp.call [] [] (f43_spec f) 82 rfl (want_as rfl rfl rfl rfl) rfl rfl (Runs.fn rfl Try.call43 rfl) (by decide) (by decide) rfl hr ?_
      rintro v12 ρ12 L12 ⟨rfl, rfl, rfl⟩
      refine ⟨rfl, fun hle12 => ⟨(Kp.st' ⟨rfl, rfl, rfl, rfl, rfl, trivial⟩ l10 hrl), ?_⟩⟩
      rw [hF, hY]
      refine Jp.q 84 rfl (want_as rfl rfl rfl rfl) rfl rfl (Y.beql rfl Try.underlying4 rfl rfl) ?_
      refine Jp.q 85 rfl (want_all rfl) rfl rfl (Y.pickT rfl rfl rfl) ?_
      refine Jp.q 4 rfl (want_all rfl) rfl rfl (Y.assign rfl rfl) ?_
      refine Jp.done hK16 ?_
      refine Cd.ret [] rfl (res1 rfl rfl) trivial ⟨rfl, rfl⟩
    · rw [if_pos rfl]
      refine Jp.q 43 rfl (want_all rfl) rfl rfl (Y.move rfl rfl) ?_
      refine Jp.q 44 rfl (want_all rfl) rfl rfl (Y.eql rfl rfl rfl) ?_
      refine Jp.q 45 rfl (want_all rfl) rfl rfl (Y.move rfl rfl) ?_
      refine Jp.q 46 rfl (want_all rfl) rfl rfl (Y.beql rfl Try.underlying4 rfl rfl) ?_
      refine Jp.q 47 rfl (want_all rfl) rfl rfl (Y.move rfl rfl) ?_
      refine Jp.splitF 47 rfl (fun g47 => ?_) (fun g47 => ?_)
      · skip
        exact absurd g47 (by simp)
      try simp only [decide_eq_false_iff_not, decide_eq_true_eq, Int.not_lt, Int.not_le, Bool.not_eq_false, Bool.not_eq_true, Bool.not_true, Bool.not_false, Bool.not_eq_true', Bool.not_eq_false', beq_eq_false_iff_ne, ne_eq, beq_iff_eq, bne_iff_ne, bne_eq_false_iff_eq, Classical.not_not] at g47
      refine Jp.q 48 rfl (want_as rfl rfl rfl rfl) rfl rfl (Y.move rfl rfl) ?_
      refine Jp.q 49 rfl (want_as rfl rfl rfl rfl) rfl rfl (Y.move rfl rfl) ?_
      refine Jp.splitF 49 rfl (fun g49 => ?_) (fun g49 => ?_)
      · skip
        exact absurd g49 (by simp)
      try simp only [decide_eq_false_iff_not, decide_eq_true_eq, Int.not_lt, Int.not_le, Bool.not_eq_false, Bool.not_eq_true, Bool.not_true, Bool.not_false, Bool.not_eq_true', Bool.not_eq_false', beq_eq_false_iff_ne, ne_eq, beq_iff_eq, bne_iff_ne, bne_eq_false_iff_eq, Classical.not_not] at g49
      refine Jp.qskip 50 rfl (want_as rfl rfl rfl rfl) rfl rfl ?_
      refine Jp.qskip 51 rfl (want_as rfl rfl rfl rfl) rfl rfl ?_
      refine Jp.q 52 rfl (want_as rfl rfl rfl rfl) rfl rfl (Y.pickT rfl rfl rfl) ?_
      refine Jp.q 53 rfl (want_all rfl) rfl rfl (Y.pickT rfl rfl rfl) ?_
      refine Jp.q 54 rfl (want_all rfl) rfl rfl (Y.move rfl rfl) ?_
      refine Jp.q 55 rfl (want_as rfl rfl rfl rfl) rfl rfl (by first | exact Y.loadAggO 0 rfl Try.isAgg35 Try.sizeOf35 rfl rfl rfl | exact Y.loadAggO 1 rfl Try.isAgg35 Try.sizeOf35 rfl rfl rfl | exact Y.loadAggO 2 rfl Try.isAgg35 Try.sizeOf35 rfl rfl rfl) ?_
      refine Jp.q 57 rfl (want_as rfl rfl rfl rfl) rfl rfl (by first | exact Y.loadAggO 0 rfl Try.isAgg30 Try.sizeOf30 rfl rfl rfl | exact Y.loadAggO 1 rfl Try.isAgg30 Try.sizeOf30 rfl rfl rfl | exact Y.loadAggO 2 rfl Try.isAgg30 Try.sizeOf30 rfl rfl rfl) ?_
      refine Jp.call [] [4] (f23_spec g1 hn1) 56 rfl (want_as rfl rfl rfl rfl) rfl rfl (Runs.fn rfl Try.call23 rfl) (by decide) (by decide) rfl hg1 ?_
      rintro v9 ρ9 L9 ⟨rfl, A9, c9, rfl, rfl⟩
      refine ⟨rfl, fun hle9 => ⟨(Kp.st ⟨rfl, rfl, rfl, rfl, rfl, trivial⟩), ?_⟩⟩
      refine Jp.freeze (i := 4) rfl (OwnS.up _ _ _ _ _ _) fun ρ10 l10 q10 => ?_
      have hr := RdFeed.up _ _ _ l10 hr
      have hg1 := RdFeed.up _ _ _ l10 hg1
      have hg2 := RdFeed.up _ _ _ l10 hg2
      have hrg : RdFeed ⟨g1.args, g1.input, g1.short, g1.random, g1.clock, ⟨A9, c9, g1.files.xs⟩⟩ ρ10 := { hg1 with files := ⟨q10.rd, hg1.files.2⟩ }
      refine Jp.call [] [] (same_spec ⟨g1.args, g1.input, g1.short, g1.random, g1.clock, ⟨A9, c9, g1.files.xs⟩⟩ g2 hc1 hc2) 58 rfl (want_as rfl rfl rfl rfl) rfl rfl (Runs.fn rfl Try.call42 rfl) (by decide) (by decide) rfl ⟨hrg, hg2⟩ ?_
      rintro v11 ρ11 L11 ⟨rfl, hsm, rfl⟩
      refine ⟨rfl, fun hle11 => ⟨(Kp.st' ⟨rfl, rfl, rfl, rfl, rfl, trivial⟩ l10 hrl), ?_⟩⟩
      obtain rfl := hsm hpp
      refine Jp.q 59 rfl (want_all rfl) rfl rfl (Y.pickT rfl rfl rfl) ?_
      refine Jp.q 60 rfl (want_all rfl) rfl rfl (Y.move rfl rfl) ?_
      refine Jp.splitF 60 rfl (fun g60 => ?_) (fun g60 => ?_)
      · skip
        exact absurd g60 (by simp)
      try simp only [decide_eq_false_iff_not, decide_eq_true_eq, Int.not_lt, Int.not_le, Bool.not_eq_false, Bool.not_eq_true, Bool.not_true, Bool.not_false, Bool.not_eq_true', Bool.not_eq_false', beq_eq_false_iff_ne, ne_eq, beq_iff_eq, bne_iff_ne, bne_eq_false_iff_eq, Classical.not_not] at g60
      refine Jp.q 61 rfl (want_as rfl rfl rfl rfl) rfl rfl (Y.move rfl rfl) ?_
      refine Jp.q 62 rfl (want_as rfl rfl rfl rfl) rfl rfl (Y.eql rfl rfl rfl) ?_
      refine Jp.q 63 rfl (want_as rfl rfl rfl rfl) rfl rfl (Y.move rfl rfl) ?_
      refine Jp.q 64 rfl (want_as rfl rfl rfl rfl) rfl rfl (Y.beql rfl Try.underlying4 rfl rfl) ?_
      refine Jp.q 65 rfl (want_all rfl) rfl rfl (Y.pickT rfl rfl rfl) ?_
      refine Jp.q 66 rfl (want_all rfl) rfl rfl (Y.move rfl rfl) ?_
      refine Jp.splitF 66 rfl (fun g66 => ?_) (fun g66 => ?_)
      · skip
        exact absurd g66 (by simp)
      try simp only [decide_eq_false_iff_not, decide_eq_true_eq, Int.not_lt, Int.not_le, Bool.not_eq_false, Bool.not_eq_true, Bool.not_true, Bool.not_false, Bool.not_eq_true', Bool.not_eq_false', beq_eq_false_iff_ne, ne_eq, beq_iff_eq, bne_iff_ne, bne_eq_false_iff_eq, Classical.not_not] at g66
      refine Jp.q 67 rfl (want_as rfl rfl rfl rfl) rfl rfl (Y.move rfl rfl) ?_
      refine Jp.q 68 rfl (want_as rfl rfl rfl rfl) rfl rfl (Y.move rfl rfl) ?_
      refine Jp.splitF 68 rfl (fun g68 => ?_) (fun g68 => ?_)
      · skip
        exact absurd g68 (by simp)
      try simp only [decide_eq_false_iff_not, decide_eq_true_eq, Int.not_lt, Int.not_le, Bool.not_eq_false, Bool.not_eq_true, Bool.not_true, Bool.not_false, Bool.not_eq_true', Bool.not_eq_false', beq_eq_false_iff_ne, ne_eq, beq_iff_eq, bne_iff_ne, bne_eq_false_iff_eq, Classical.not_not] at g68
      refine Jp.qskip 69 rfl (want_as rfl rfl rfl rfl) rfl rfl ?_
      refine Jp.qskip 70 rfl (want_as rfl rfl rfl rfl) rfl rfl ?_
      refine Jp.q 71 rfl (want_as rfl rfl rfl rfl) rfl rfl (Y.pickT rfl rfl rfl) ?_
      refine Jp.q 72 rfl (want_all rfl) rfl rfl (Y.pickT rfl rfl rfl) ?_
      refine Jp.q 73 rfl (want_all rfl) rfl rfl (Y.move rfl rfl) ?_
      refine Jp.q 74 rfl (want_as rfl rfl rfl rfl) rfl rfl (Y.move rfl rfl) ?_
      refine Jp.q 75 rfl (want_as rfl rfl rfl rfl) rfl rfl (Y.toStr _ rfl rfl Try.underlying26 Try.underlying9 Try.underlying5 ⟨_, _, rfl⟩ (Src.own 3 rfl)) ?_
      refine Jp.q 76 rfl (want_as rfl rfl rfl rfl) rfl rfl (Y.move rfl rfl) ?_
      refine Jp.q 77 rfl (want_as rfl rfl rfl rfl) rfl rfl (Y.toStr _ rfl rfl Try.underlying26 Try.underlying9 Try.underlying5 ⟨_, _, rfl⟩ (Src.own 5 rfl)) ?_
      refine Jp.q 78 rfl (want_as rfl rfl rfl rfl) rfl rfl (Y.streql rfl rfl rfl) ?_
      refine Jp.q 79 rfl (want_all rfl) rfl rfl (Y.pickT rfl rfl rfl) ?_
      refine Jp.q 80 rfl (want_all rfl) rfl rfl (Y.move rfl rfl) ?_
      refine Jp.splitF 80 rfl (fun g80 => ?_) (fun g80 => ?_)
      · skip
        exact absurd g80 (by simp)
      try simp only [decide_eq_false_iff_not, decide_eq_true_eq, Int.not_lt, Int.not_le, Bool.not_eq_false, Bool.not_eq_true, Bool.not_true, Bool.not_false, Bool.not_eq_true', Bool.not_eq_false', beq_eq_false_iff_ne, ne_eq, beq_iff_eq, bne_iff_ne, bne_eq_false_iff_eq, Classical.not_not] at g80
      refine Jp.q 81 rfl (want_as rfl rfl rfl rfl) rfl rfl (by first | exact Y.loadAggO 0 rfl Try.isAgg35 Try.sizeOf35 rfl rfl rfl | exact Y.loadAggO 1 rfl Try.isAgg35 Try.sizeOf35 rfl rfl rfl | exact Y.loadAggO 2 rfl Try.isAgg35 Try.sizeOf35 rfl rfl rfl) ?_
      refine Jp.q 83 rfl (want_as rfl rfl rfl rfl) rfl rfl (Y.move rfl rfl) ?_
      refine Jp.call [] [] (f43_spec f) 82 rfl (want_as rfl rfl rfl rfl) rfl rfl (Runs.fn rfl Try.call43 rfl) (by decide) (by decide) rfl hr ?_
      rintro v12 ρ12 L12 ⟨rfl, rfl, rfl⟩
      refine ⟨rfl, fun hle12 => ⟨(Kp.st' ⟨rfl, rfl, rfl, rfl, rfl, trivial⟩ l10 hrl), ?_⟩⟩
      rw [hF, hY]
      refine Jp.q 84 rfl (want_as rfl rfl rfl rfl) rfl rfl (Y.beql rfl Try.underlying4 rfl rfl) ?_
      refine Jp.q 85 rfl (want_all rfl) rfl rfl (Y.pickT rfl rfl rfl) ?_
      refine Jp.q 4 rfl (want_all rfl) rfl rfl (Y.assign rfl rfl) ?_
      refine Jp.done hK16 ?_
      refine Cd.ret [] rfl (res1 rfl rfl) trivial ⟨rfl, rfl⟩
  · rw [e1, e2]
    rcases hY : good F with _ | _
    · rw [if_neg (by simp)]
      refine Jp.q 43 rfl (want_all rfl) rfl rfl (Y.move rfl rfl) ?_
      refine Jp.q 44 rfl (want_all rfl) rfl rfl (Y.eql rfl rfl rfl) ?_
      refine Jp.q 45 rfl (want_all rfl) rfl rfl (Y.move rfl rfl) ?_
      refine Jp.q 46 rfl (want_all rfl) rfl rfl (Y.beql rfl Try.underlying4 rfl rfl) ?_
      refine Jp.q 47 rfl (want_all rfl) rfl rfl (Y.move rfl rfl) ?_
      refine Jp.splitF 47 rfl (fun g47 => ?_) (fun g47 => ?_)
      · skip
        exact absurd g47 (by simp)
      try simp only [decide_eq_false_iff_not, decide_eq_true_eq, Int.not_lt, Int.not_le, Bool.not_eq_false, Bool.not_eq_true, Bool.not_true, Bool.not_false, Bool.not_eq_true', Bool.not_eq_false', beq_eq_false_iff_ne, ne_eq, beq_iff_eq, bne_iff_ne, bne_eq_false_iff_eq, Classical.not_not] at g47
      refine Jp.q 48 rfl (want_as rfl rfl rfl rfl) rfl rfl (Y.move rfl rfl) ?_
      refine Jp.q 49 rfl (want_as rfl rfl rfl rfl) rfl rfl (Y.move rfl rfl) ?_
      refine Jp.split 49 rfl (fun g49 => ?_) (fun g49 => ?_)
      · skip
        exact absurd g49 (by simp)
      try simp only [decide_eq_false_iff_not, decide_eq_true_eq, Int.not_lt, Int.not_le, Bool.not_eq_false, Bool.not_eq_true, Bool.not_true, Bool.not_false, Bool.not_eq_true', Bool.not_eq_false', beq_eq_false_iff_ne, ne_eq, beq_iff_eq, bne_iff_ne, bne_eq_false_iff_eq, Classical.not_not] at g49
      refine Jp.q 50 rfl (want_as rfl rfl rfl rfl) rfl rfl (Y.move rfl rfl) ?_
      refine Jp.q 51 rfl (want_as rfl rfl rfl rfl) rfl rfl (Y.eql rfl rfl rfl) ?_
      refine Jp.q 52 rfl (want_as rfl rfl rfl rfl) rfl rfl (Y.pickF rfl rfl rfl) ?_
      refine Jp.q 53 rfl (want_all rfl) rfl rfl (Y.pickT rfl rfl rfl) ?_
      refine Jp.q 54 rfl (want_all rfl) rfl rfl (Y.move rfl rfl) ?_
      refine Jp.splitF 54 rfl (fun g54 => ?_) (fun g54 => ?_)
      · skip
        exact absurd g54 (by simp)
      try simp only [decide_eq_false_iff_not, decide_eq_true_eq, Int.not_lt, Int.not_le, Bool.not_eq_false, Bool.not_eq_true, Bool.not_true, Bool.not_false, Bool.not_eq_true', Bool.not_eq_false', beq_eq_false_iff_ne, ne_eq, beq_iff_eq, bne_iff_ne, bne_eq_false_iff_eq, Classical.not_not] at g54
      refine Jp.q 55 rfl (want_as rfl rfl rfl rfl) rfl rfl (by first | exact Y.loadAggO 0 rfl Try.isAgg35 Try.sizeOf35 rfl rfl rfl | exact Y.loadAggO 1 rfl Try.isAgg35 Try.sizeOf35 rfl rfl rfl | exact Y.loadAggO 2 rfl Try.isAgg35 Try.sizeOf35 rfl rfl rfl) ?_
      refine Jp.q 57 rfl (want_as rfl rfl rfl rfl) rfl rfl (by first | exact Y.loadAggO 0 rfl Try.isAgg30 Try.sizeOf30 rfl rfl rfl | exact Y.loadAggO 1 rfl Try.isAgg30 Try.sizeOf30 rfl rfl rfl | exact Y.loadAggO 2 rfl Try.isAgg30 Try.sizeOf30 rfl rfl rfl) ?_
      refine Jp.call [] [4] (f23_spec g1 hn1) 56 rfl (want_as rfl rfl rfl rfl) rfl rfl (Runs.fn rfl Try.call23 rfl) (by decide) (by decide) rfl hg1 ?_
      rintro v9 ρ9 L9 ⟨rfl, A9, c9, rfl, rfl⟩
      refine ⟨rfl, fun hle9 => ⟨(Kp.st ⟨rfl, rfl, rfl, rfl, rfl, trivial⟩), ?_⟩⟩
      refine Jp.freeze (i := 4) rfl (OwnS.up _ _ _ _ _ _) fun ρ10 l10 q10 => ?_
      have hr := RdFeed.up _ _ _ l10 hr
      have hg1 := RdFeed.up _ _ _ l10 hg1
      have hg2 := RdFeed.up _ _ _ l10 hg2
      have hrg : RdFeed ⟨g1.args, g1.input, g1.short, g1.random, g1.clock, ⟨A9, c9, g1.files.xs⟩⟩ ρ10 := { hg1 with files := ⟨q10.rd, hg1.files.2⟩ }
      refine Jp.call [] [] (same_spec ⟨g1.args, g1.input, g1.short, g1.random, g1.clock, ⟨A9, c9, g1.files.xs⟩⟩ g2 hc1 hc2) 58 rfl (want_as rfl rfl rfl rfl) rfl rfl (Runs.fn rfl Try.call42 rfl) (by decide) (by decide) rfl ⟨hrg, hg2⟩ ?_
      rintro v11 ρ11 L11 ⟨rfl, hsm, rfl⟩
      refine ⟨rfl, fun hle11 => ⟨(Kp.st' ⟨rfl, rfl, rfl, rfl, rfl, trivial⟩ l10 hrl), ?_⟩⟩
      obtain rfl := hsm hpp
      refine Jp.q 59 rfl (want_all rfl) rfl rfl (Y.pickT rfl rfl rfl) ?_
      refine Jp.q 60 rfl (want_all rfl) rfl rfl (Y.move rfl rfl) ?_
      refine Jp.splitF 60 rfl (fun g60 => ?_) (fun g60 => ?_)
      · skip
        exact absurd g60 (by simp)
      try simp only [decide_eq_false_iff_not, decide_eq_true_eq, Int.not_lt, Int.not_le, Bool.not_eq_false, Bool.not_eq_true, Bool.not_true, Bool.not_false, Bool.not_eq_true', Bool.not_eq_false', beq_eq_false_iff_ne, ne_eq, beq_iff_eq, bne_iff_ne, bne_eq_false_iff_eq, Classical.not_not] at g60
      refine Jp.q 61 rfl (want_as rfl rfl rfl rfl) rfl rfl (Y.move rfl rfl) ?_
      refine Jp.q 62 rfl (want_as rfl rfl rfl rfl) rfl rfl (Y.eql rfl rfl rfl) ?_
      refine Jp.q 63 rfl (want_as rfl rfl rfl rfl) rfl rfl (Y.move rfl rfl) ?_
      refine Jp.q 64 rfl (want_as rfl rfl rfl rfl) rfl rfl (Y.beql rfl Try.underlying4 rfl rfl) ?_
      refine Jp.q 65 rfl (want_all rfl) rfl rfl (Y.pickT rfl rfl rfl) ?_
      refine Jp.q 66 rfl (want_all rfl) rfl rfl (Y.move rfl rfl) ?_
      refine Jp.splitF 66 rfl (fun g66 => ?_) (fun g66 => ?_)
      · skip
        exact absurd g66 (by simp)
      try simp only [decide_eq_false_iff_not, decide_eq_true_eq, Int.not_lt, Int.not_le, Bool.not_eq_false, Bool.not_eq_true, Bool.not_true, Bool.not_false, Bool.not_eq_true', Bool.not_eq_false', beq_eq_false_iff_ne, ne_eq, beq_iff_eq, bne_iff_ne, bne_eq_false_iff_eq, Classical.not_not] at g66
      refine Jp.q 67 rfl (want_as rfl rfl rfl rfl) rfl rfl (Y.move rfl rfl) ?_
      refine Jp.q 68 rfl (want_as rfl rfl rfl rfl) rfl rfl (Y.move rfl rfl) ?_
      refine Jp.split 68 rfl (fun g68 => ?_) (fun g68 => ?_)
      · skip
        exact absurd g68 (by simp)
      try simp only [decide_eq_false_iff_not, decide_eq_true_eq, Int.not_lt, Int.not_le, Bool.not_eq_false, Bool.not_eq_true, Bool.not_true, Bool.not_false, Bool.not_eq_true', Bool.not_eq_false', beq_eq_false_iff_ne, ne_eq, beq_iff_eq, bne_iff_ne, bne_eq_false_iff_eq, Classical.not_not] at g68
      refine Jp.q 69 rfl (want_as rfl rfl rfl rfl) rfl rfl (Y.move rfl rfl) ?_
      refine Jp.q 70 rfl (want_as rfl rfl rfl rfl) rfl rfl (Y.eql rfl rfl rfl) ?_
      refine Jp.q 71 rfl (want_as rfl rfl rfl rfl) rfl rfl (Y.pickF rfl rfl rfl) ?_
      refine Jp.q 72 rfl (want_all rfl) rfl rfl (Y.pickT rfl rfl rfl) ?_
      refine Jp.q 73 rfl (want_all rfl) rfl rfl (Y.move rfl rfl) ?_
      refine Jp.splitF 73 rfl (fun g73 => ?_) (fun g73 => ?_)
      · skip
        exact absurd g73 (by simp)
      try simp only [decide_eq_false_iff_not, decide_eq_true_eq, Int.not_lt, Int.not_le, Bool.not_eq_false, Bool.not_eq_true, Bool.not_true, Bool.not_false, Bool.not_eq_true', Bool.not_eq_false', beq_eq_false_iff_ne, ne_eq, beq_iff_eq, bne_iff_ne, bne_eq_false_iff_eq, Classical.not_not] at g73
      refine Jp.q 74 rfl (want_as rfl rfl rfl rfl) rfl rfl (Y.move rfl rfl) ?_
      refine Jp.q 75 rfl (want_as rfl rfl rfl rfl) rfl rfl (Y.toStr _ rfl rfl Try.underlying26 Try.underlying9 Try.underlying5 ⟨_, _, rfl⟩ (Src.own 3 rfl)) ?_
      refine Jp.q 76 rfl (want_as rfl rfl rfl rfl) rfl rfl (Y.move rfl rfl) ?_
      refine Jp.q 77 rfl (want_as rfl rfl rfl rfl) rfl rfl (Y.toStr _ rfl rfl Try.underlying26 Try.underlying9 Try.underlying5 ⟨_, _, rfl⟩ (Src.own 5 rfl)) ?_
      refine Jp.q 78 rfl (want_as rfl rfl rfl rfl) rfl rfl (Y.streql rfl rfl rfl) ?_
      refine Jp.q 79 rfl (want_all rfl) rfl rfl (Y.pickT rfl rfl rfl) ?_
      refine Jp.q 80 rfl (want_all rfl) rfl rfl (Y.move rfl rfl) ?_
      refine Jp.splitF 80 rfl (fun g80 => ?_) (fun g80 => ?_)
      · skip
        exact absurd g80 (by simp)
      try simp only [decide_eq_false_iff_not, decide_eq_true_eq, Int.not_lt, Int.not_le, Bool.not_eq_false, Bool.not_eq_true, Bool.not_true, Bool.not_false, Bool.not_eq_true', Bool.not_eq_false', beq_eq_false_iff_ne, ne_eq, beq_iff_eq, bne_iff_ne, bne_eq_false_iff_eq, Classical.not_not] at g80
      refine Jp.q 81 rfl (want_as rfl rfl rfl rfl) rfl rfl (by first | exact Y.loadAggO 0 rfl Try.isAgg35 Try.sizeOf35 rfl rfl rfl | exact Y.loadAggO 1 rfl Try.isAgg35 Try.sizeOf35 rfl rfl rfl | exact Y.loadAggO 2 rfl Try.isAgg35 Try.sizeOf35 rfl rfl rfl) ?_
      refine Jp.q 83 rfl (want_as rfl rfl rfl rfl) rfl rfl (Y.move rfl rfl) ?_
      refine Jp.call [] [] (f43_spec f) 82 rfl (want_as rfl rfl rfl rfl) rfl rfl (Runs.fn rfl Try.call43 rfl) (by decide) (by decide) rfl hr ?_
      rintro v12 ρ12 L12 ⟨rfl, rfl, rfl⟩
      refine ⟨rfl, fun hle12 => ⟨(Kp.st' ⟨rfl, rfl, rfl, rfl, rfl, trivial⟩ l10 hrl), ?_⟩⟩
      rw [hF, hY]
      refine Jp.q 84 rfl (want_as rfl rfl rfl rfl) rfl rfl (Y.beql rfl Try.underlying4 rfl rfl) ?_
      refine Jp.q 85 rfl (want_all rfl) rfl rfl (Y.pickT rfl rfl rfl) ?_
      refine Jp.q 4 rfl (want_all rfl) rfl rfl (Y.assign rfl rfl) ?_
      refine Jp.done hK16 ?_
      refine Cd.ret [] rfl (res1 rfl rfl) trivial ⟨rfl, rfl⟩
    · rw [if_pos rfl]
      refine Jp.q 43 rfl (want_all rfl) rfl rfl (Y.move rfl rfl) ?_
      refine Jp.q 44 rfl (want_all rfl) rfl rfl (Y.eql rfl rfl rfl) ?_
      refine Jp.q 45 rfl (want_all rfl) rfl rfl (Y.move rfl rfl) ?_
      refine Jp.q 46 rfl (want_all rfl) rfl rfl (Y.beql rfl Try.underlying4 rfl rfl) ?_
      refine Jp.q 47 rfl (want_all rfl) rfl rfl (Y.move rfl rfl) ?_
      refine Jp.splitF 47 rfl (fun g47 => ?_) (fun g47 => ?_)
      · skip
        exact absurd g47 (by simp)
      try simp only [decide_eq_false_iff_not, decide_eq_true_eq, Int.not_lt, Int.not_le, Bool.not_eq_false, Bool.not_eq_true, Bool.not_true, Bool.not_false, Bool.not_eq_true', Bool.not_eq_false', beq_eq_false_iff_ne, ne_eq, beq_iff_eq, bne_iff_ne, bne_eq_false_iff_eq, Classical.not_not] at g47
      refine Jp.q 48 rfl (want_as rfl rfl rfl rfl) rfl rfl (Y.move rfl rfl) ?_
      refine Jp.q 49 rfl (want_as rfl rfl rfl rfl) rfl rfl (Y.move rfl rfl) ?_
      refine Jp.split 49 rfl (fun g49 => ?_) (fun g49 => ?_)
      · skip
        exact absurd g49 (by simp)
      try simp only [decide_eq_false_iff_not, decide_eq_true_eq, Int.not_lt, Int.not_le, Bool.not_eq_false, Bool.not_eq_true, Bool.not_true, Bool.not_false, Bool.not_eq_true', Bool.not_eq_false', beq_eq_false_iff_ne, ne_eq, beq_iff_eq, bne_iff_ne, bne_eq_false_iff_eq, Classical.not_not] at g49
      refine Jp.q 50 rfl (want_as rfl rfl rfl rfl) rfl rfl (Y.move rfl rfl) ?_
      refine Jp.q 51 rfl (want_as rfl rfl rfl rfl) rfl rfl (Y.eql rfl rfl rfl) ?_
      refine Jp.q 52 rfl (want_as rfl rfl rfl rfl) rfl rfl (Y.pickF rfl rfl rfl) ?_
      refine Jp.q 53 rfl (want_all rfl) rfl rfl (Y.pickT rfl rfl rfl) ?_
      refine Jp.q 54 rfl (want_all rfl) rfl rfl (Y.move rfl rfl) ?_
      refine Jp.splitF 54 rfl (fun g54 => ?_) (fun g54 => ?_)
      · skip
        exact absurd g54 (by simp)
      try simp only [decide_eq_false_iff_not, decide_eq_true_eq, Int.not_lt, Int.not_le, Bool.not_eq_false, Bool.not_eq_true, Bool.not_true, Bool.not_false, Bool.not_eq_true', Bool.not_eq_false', beq_eq_false_iff_ne, ne_eq, beq_iff_eq, bne_iff_ne, bne_eq_false_iff_eq, Classical.not_not] at g54
      refine Jp.q 55 rfl (want_as rfl rfl rfl rfl) rfl rfl (by first | exact Y.loadAggO 0 rfl Try.isAgg35 Try.sizeOf35 rfl rfl rfl | exact Y.loadAggO 1 rfl Try.isAgg35 Try.sizeOf35 rfl rfl rfl | exact Y.loadAggO 2 rfl Try.isAgg35 Try.sizeOf35 rfl rfl rfl) ?_
      refine Jp.q 57 rfl (want_as rfl rfl rfl rfl) rfl rfl (by first | exact Y.loadAggO 0 rfl Try.isAgg30 Try.sizeOf30 rfl rfl rfl | exact Y.loadAggO 1 rfl Try.isAgg30 Try.sizeOf30 rfl rfl rfl | exact Y.loadAggO 2 rfl Try.isAgg30 Try.sizeOf30 rfl rfl rfl) ?_
      refine Jp.call [] [4] (f23_spec g1 hn1) 56 rfl (want_as rfl rfl rfl rfl) rfl rfl (Runs.fn rfl Try.call23 rfl) (by decide) (by decide) rfl hg1 ?_
      rintro v9 ρ9 L9 ⟨rfl, A9, c9, rfl, rfl⟩
      refine ⟨rfl, fun hle9 => ⟨(Kp.st ⟨rfl, rfl, rfl, rfl, rfl, trivial⟩), ?_⟩⟩
      refine Jp.freeze (i := 4) rfl (OwnS.up _ _ _ _ _ _) fun ρ10 l10 q10 => ?_
      have hr := RdFeed.up _ _ _ l10 hr
      have hg1 := RdFeed.up _ _ _ l10 hg1
      have hg2 := RdFeed.up _ _ _ l10 hg2
      have hrg : RdFeed ⟨g1.args, g1.input, g1.short, g1.random, g1.clock, ⟨A9, c9, g1.files.xs⟩⟩ ρ10 := { hg1 with files := ⟨q10.rd, hg1.files.2⟩ }
      refine Jp.call [] [] (same_spec ⟨g1.args, g1.input, g1.short, g1.random, g1.clock, ⟨A9, c9, g1.files.xs⟩⟩ g2 hc1 hc2) 58 rfl (want_as rfl rfl rfl rfl) rfl rfl (Runs.fn rfl Try.call42 rfl) (by decide) (by decide) rfl ⟨hrg, hg2⟩ ?_
      rintro v11 ρ11 L11 ⟨rfl, hsm, rfl⟩
      refine ⟨rfl, fun hle11 => ⟨(Kp.st' ⟨rfl, rfl, rfl, rfl, rfl, trivial⟩ l10 hrl), ?_⟩⟩
      obtain rfl := hsm hpp
      refine Jp.q 59 rfl (want_all rfl) rfl rfl (Y.pickT rfl rfl rfl) ?_
      refine Jp.q 60 rfl (want_all rfl) rfl rfl (Y.move rfl rfl) ?_
      refine Jp.splitF 60 rfl (fun g60 => ?_) (fun g60 => ?_)
      · skip
        exact absurd g60 (by simp)
      try simp only [decide_eq_false_iff_not, decide_eq_true_eq, Int.not_lt, Int.not_le, Bool.not_eq_false, Bool.not_eq_true, Bool.not_true, Bool.not_false, Bool.not_eq_true', Bool.not_eq_false', beq_eq_false_iff_ne, ne_eq, beq_iff_eq, bne_iff_ne, bne_eq_false_iff_eq, Classical.not_not] at g60
      refine Jp.q 61 rfl (want_as rfl rfl rfl rfl) rfl rfl (Y.move rfl rfl) ?_
      refine Jp.q 62 rfl (want_as rfl rfl rfl rfl) rfl rfl (Y.eql rfl rfl rfl) ?_
      refine Jp.q 63 rfl (want_as rfl rfl rfl rfl) rfl rfl (Y.move rfl rfl) ?_
      refine Jp.q 64 rfl (want_as rfl rfl rfl rfl) rfl rfl (Y.beql rfl Try.underlying4 rfl rfl) ?_
      refine Jp.q 65 rfl (want_all rfl) rfl rfl (Y.pickT rfl rfl rfl) ?_
      refine Jp.q 66 rfl (want_all rfl) rfl rfl (Y.move rfl rfl) ?_
      refine Jp.splitF 66 rfl (fun g66 => ?_) (fun g66 => ?_)
      · skip
        exact absurd g66 (by simp)
      try simp only [decide_eq_false_iff_not, decide_eq_true_eq, Int.not_lt, Int.not_le, Bool.not_eq_false, Bool.not_eq_true, Bool.not_true, Bool.not_false, Bool.not_eq_true', Bool.not_eq_false', beq_eq_false_iff_ne, ne_eq, beq_iff_eq, bne_iff_ne, bne_eq_false_iff_eq, Classical.not_not] at g66
      refine Jp.q 67 rfl (want_as rfl rfl rfl rfl) rfl rfl (Y.move rfl rfl) ?_
      refine Jp.q 68 rfl (want_as rfl rfl rfl rfl) rfl rfl (Y.move rfl rfl) ?_
      refine Jp.splitF 68 rfl (fun g68 => ?_) (fun g68 => ?_)
      · skip
        exact absurd g68 (by simp)
      try simp only [decide_eq_false_iff_not, decide_eq_true_eq, Int.not_lt, Int.not_le, Bool.not_eq_false, Bool.not_eq_true, Bool.not_true, Bool.not_false, Bool.not_eq_true', Bool.not_eq_false', beq_eq_false_iff_ne, ne_eq, beq_iff_eq, bne_iff_ne, bne_eq_false_iff_eq, Classical.not_not] at g68
      refine Jp.qskip 69 rfl (want_as rfl rfl rfl rfl) rfl rfl ?_
      refine Jp.qskip 70 rfl (want_as rfl rfl rfl rfl) rfl rfl ?_
      refine Jp.q 71 rfl (want_as rfl rfl rfl rfl) rfl rfl (Y.pickT rfl rfl rfl) ?_
      refine Jp.q 72 rfl (want_all rfl) rfl rfl (Y.pickT rfl rfl rfl) ?_
      refine Jp.q 73 rfl (want_all rfl) rfl rfl (Y.move rfl rfl) ?_
      refine Jp.q 74 rfl (want_as rfl rfl rfl rfl) rfl rfl (Y.move rfl rfl) ?_
      refine Jp.q 75 rfl (want_as rfl rfl rfl rfl) rfl rfl (Y.toStr _ rfl rfl Try.underlying26 Try.underlying9 Try.underlying5 ⟨_, _, rfl⟩ (Src.own 3 rfl)) ?_
      refine Jp.q 76 rfl (want_as rfl rfl rfl rfl) rfl rfl (Y.move rfl rfl) ?_
      refine Jp.q 77 rfl (want_as rfl rfl rfl rfl) rfl rfl (Y.toStr _ rfl rfl Try.underlying26 Try.underlying9 Try.underlying5 ⟨_, _, rfl⟩ (Src.own 5 rfl)) ?_
      refine Jp.q 78 rfl (want_as rfl rfl rfl rfl) rfl rfl (Y.streql rfl rfl rfl) ?_
      refine Jp.q 79 rfl (want_all rfl) rfl rfl (Y.pickT rfl rfl rfl) ?_
      refine Jp.q 80 rfl (want_all rfl) rfl rfl (Y.move rfl rfl) ?_
      refine Jp.splitF 80 rfl (fun g80 => ?_) (fun g80 => ?_)
      · skip
        exact absurd g80 (by simp)
      try simp only [decide_eq_false_iff_not, decide_eq_true_eq, Int.not_lt, Int.not_le, Bool.not_eq_false, Bool.not_eq_true, Bool.not_true, Bool.not_false, Bool.not_eq_true', Bool.not_eq_false', beq_eq_false_iff_ne, ne_eq, beq_iff_eq, bne_iff_ne, bne_eq_false_iff_eq, Classical.not_not] at g80
      refine Jp.q 81 rfl (want_as rfl rfl rfl rfl) rfl rfl (by first | exact Y.loadAggO 0 rfl Try.isAgg35 Try.sizeOf35 rfl rfl rfl | exact Y.loadAggO 1 rfl Try.isAgg35 Try.sizeOf35 rfl rfl rfl | exact Y.loadAggO 2 rfl Try.isAgg35 Try.sizeOf35 rfl rfl rfl) ?_
      refine Jp.q 83 rfl (want_as rfl rfl rfl rfl) rfl rfl (Y.move rfl rfl) ?_
      refine Jp.call [] [] (f43_spec f) 82 rfl (want_as rfl rfl rfl rfl) rfl rfl (Runs.fn rfl Try.call43 rfl) (by decide) (by decide) rfl hr ?_
      rintro v12 ρ12 L12 ⟨rfl, rfl, rfl⟩
      refine ⟨rfl, fun hle12 => ⟨(Kp.st' ⟨rfl, rfl, rfl, rfl, rfl, trivial⟩ l10 hrl), ?_⟩⟩
      rw [hF, hY]
      refine Jp.q 84 rfl (want_as rfl rfl rfl rfl) rfl rfl (Y.beql rfl Try.underlying4 rfl rfl) ?_
      refine Jp.q 85 rfl (want_all rfl) rfl rfl (Y.pickT rfl rfl rfl) ?_
      refine Jp.q 4 rfl (want_all rfl) rfl rfl (Y.assign rfl rfl) ?_
      refine Jp.done hK16 ?_
      refine Cd.ret [] rfl (res1 rfl rfl) trivial ⟨rfl, rfl⟩
end Go.Proofs.Ytjjhihlmoecmlaa
