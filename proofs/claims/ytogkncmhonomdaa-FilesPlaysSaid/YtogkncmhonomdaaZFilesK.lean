import Derived.Test.YtogkncmhonomdaaZFilesE
import Derived.Test.YtogkncmhonomdaaZEngY
set_option linter.unusedVariables false
set_option linter.unusedSimpArgs false
set_option maxRecDepth 100000
namespace Go.Proofs.Ytogkncmhonomdaa
open Go
theorem cloneOp_spec (b : Nat) (m : MapL) : Spec Try.prog 34 #[.map (some b)] (fun _ => True) [(0, MapO .i64 b m)] (fun ρ ρ' v L => ρ' = ρ ∧ ∃ b', v = .map (some b') ∧ L = [(0, MapO .i64 b m), (1, MapO .i64 b' m)]) := by
  refine Spec.of 9 Try.func34 rfl Try.ntmps34 [(0, _)] rfl rfl ?_
  intro cx ρ hr h0
  refine Cd.seq fun K1 hK1 => ?_
  refine Cd.plain [(0, false)] rfl rfl ?_
  refine Jp.y 2 rfl (want_all rfl) rfl rfl Kp.true (Y.assign rfl rfl) ?_
  refine Jp.done hK1 ?_
  refine Cd.seq fun K2 hK2 => ?_
  refine Cd.seq fun K3 hK3 => ?_
  refine Cd.plain [(0, false), (1, false)] rfl rfl ?_
  refine Jp.y 3 rfl (want_all rfl) rfl rfl Kp.true (Y.move rfl rfl) ?_
  refine Jp.y 4 rfl (want_all rfl) rfl rfl Kp.true (Y.mapNil rfl Try.underlying65 rfl rfl) ?_
  refine Jp.done hK3 ?_
  refine Cd.cond rfl (fun g4 => ?_) (fun g4 => ?_)
  · skip
    exact absurd g4 (by simp)
  try simp only [decide_eq_false_iff_not, decide_eq_true_eq, Int.not_lt, Int.not_le, Bool.not_eq_false, Bool.not_eq_true, Bool.not_true, Bool.not_false, Bool.not_eq_true', Bool.not_eq_false', beq_eq_false_iff_ne, ne_eq, beq_iff_eq, bne_iff_ne, bne_eq_false_iff_eq, Classical.not_not] at g4
  refine Cd.skip hK2 ?_
  refine Cd.seq fun K4 hK4 => ?_
  refine Cd.plain [(0, false), (1, false), (2, false), (3, false), (4, false)] rfl rfl ?_
  refine Jp.y 5 rfl (want_all rfl) rfl rfl Kp.true (Y.move rfl rfl) ?_
  refine Jp.y 6 rfl (want_all rfl) rfl rfl Kp.true (Y.ifaceMap rfl Try.underlying65 rfl) ?_
  refine Jp.cloneMap 7 0 1 rfl (want_all rfl) rfl rfl rfl (fun args w => run_callFunc_standIn Try.func43 (by kernel_rfl) (by kernel_rfl) (by kernel_rfl) (by kernel_rfl) args w) rfl rfl fun b1 => ⟨Kp.true, ?_⟩
  refine Jp.y 8 rfl (want_all rfl) rfl rfl Kp.true (Y.assertMap rfl Try.underlying65 rfl) ?_
  refine Jp.y 2 rfl (want_all rfl) rfl rfl Kp.true (Y.assign rfl rfl) ?_
  refine Jp.done hK4 ?_
  refine Cd.ret [(0, _), (1, _)] rfl (res1 rfl rfl) ⟨rfl, rfl, trivial⟩ ⟨rfl, b1, rfl, rfl⟩
theorem cloneOut_spec (b : Nat) (m : MapL) : Spec Try.prog 35 #[.map (some b)] (fun _ => True) [(0, MapO .i64 b m)] (fun ρ ρ' v L => ρ' = ρ ∧ ∃ b', v = .map (some b') ∧ L = [(0, MapO .i64 b m), (1, MapO .i64 b' m)]) := by
  refine Spec.of 9 Try.func35 rfl Try.ntmps35 [(0, _)] rfl rfl ?_
  intro cx ρ hr h0
  refine Cd.seq fun K5 hK5 => ?_
  refine Cd.plain [(0, false)] rfl rfl ?_
  refine Jp.y 2 rfl (want_all rfl) rfl rfl Kp.true (Y.assign rfl rfl) ?_
  refine Jp.done hK5 ?_
  refine Cd.seq fun K6 hK6 => ?_
  refine Cd.seq fun K7 hK7 => ?_
  refine Cd.plain [(0, false), (1, false)] rfl rfl ?_
  refine Jp.y 3 rfl (want_all rfl) rfl rfl Kp.true (Y.move rfl rfl) ?_
  refine Jp.y 4 rfl (want_all rfl) rfl rfl Kp.true (Y.mapNil rfl Try.underlying66 rfl rfl) ?_
  refine Jp.done hK7 ?_
  refine Cd.cond rfl (fun g4 => ?_) (fun g4 => ?_)
  · skip
    exact absurd g4 (by simp)
  try simp only [decide_eq_false_iff_not, decide_eq_true_eq, Int.not_lt, Int.not_le, Bool.not_eq_false, Bool.not_eq_true, Bool.not_true, Bool.not_false, Bool.not_eq_true', Bool.not_eq_false', beq_eq_false_iff_ne, ne_eq, beq_iff_eq, bne_iff_ne, bne_eq_false_iff_eq, Classical.not_not] at g4
  refine Cd.skip hK6 ?_
  refine Cd.seq fun K8 hK8 => ?_
  refine Cd.plain [(0, false), (1, false), (2, false), (3, false), (4, false)] rfl rfl ?_
  refine Jp.y 5 rfl (want_all rfl) rfl rfl Kp.true (Y.move rfl rfl) ?_
  refine Jp.y 6 rfl (want_all rfl) rfl rfl Kp.true (Y.ifaceMap rfl Try.underlying66 rfl) ?_
  refine Jp.cloneMap 7 0 1 rfl (want_all rfl) rfl rfl rfl (fun args w => run_callFunc_standIn Try.func43 (by kernel_rfl) (by kernel_rfl) (by kernel_rfl) (by kernel_rfl) args w) rfl rfl fun b1 => ⟨Kp.true, ?_⟩
  refine Jp.y 8 rfl (want_all rfl) rfl rfl Kp.true (Y.assertMap rfl Try.underlying66 rfl) ?_
  refine Jp.y 2 rfl (want_all rfl) rfl rfl Kp.true (Y.assign rfl rfl) ?_
  refine Jp.done hK8 ?_
  refine Cd.ret [(0, _), (1, _)] rfl (res1 rfl rfl) ⟨rfl, rfl, trivial⟩ ⟨rfl, b1, rfl, rfl⟩
theorem useCopy_spec (b : Nat) (u : UseG) : Spec Try.prog 33 #[.pointer (some ⟨b, 0, none⟩)] (fun _ => True) [(0, UsePt b u)] (fun ρ ρ' v L => ρ' = ρ ∧ ∃ b', v = .pointer (some ⟨b', 0, none⟩) ∧ L = [(0, UsePt b u), (1, UsePt b' u)]) := by
  dsimp only [UsePt, UseG.cells]
  refine Spec.of 7 Try.func33 rfl Try.ntmps33 [(0, _)] rfl rfl ?_
  intro cx ρ hr h0
  refine Cd.seq fun K9 hK9 => ?_
  refine Cd.plain [(0, false)] rfl rfl ?_
  refine Jp.y 2 rfl (want_all rfl) rfl rfl Kp.true (Y.assign rfl rfl) ?_
  refine Jp.done hK9 ?_
  refine Cd.seq fun K10 hK10 => ?_
  refine Cd.plain [(0, false), (1, false), (2, false), (3, false), (4, false)] rfl rfl ?_
  refine Jp.y 4 rfl (want_all rfl) rfl rfl Kp.true (Y.move rfl rfl) ?_
  refine Jp.y 5 rfl (want_all rfl) rfl rfl Kp.true (Y.nilCheck rfl rfl) ?_
  refine Jp.y 6 rfl (want_all rfl) rfl rfl Kp.true (by first | exact Y.loadAggO 0 rfl Try.isAgg84 Try.sizeOf84 rfl rfl rfl) ?_
  refine Jp.alloc 1 3 rfl (want_all rfl) rfl rfl rfl Try.zeroValue84 fun b1 => ⟨Kp.true, ?_⟩
  first | refine Jp.storeAgg 0 rfl (want_all rfl) rfl rfl Try.sizeOf84 rfl rfl rfl rfl rfl rfl (fun k _ _ => noFr0 k) Kp.true ?_ | refine Jp.storeAgg 1 rfl (want_all rfl) rfl rfl Try.sizeOf84 rfl rfl rfl rfl rfl rfl (fun k _ _ => noFr0 k) Kp.true ?_
  refine Jp.done hK10 ?_
  refine Cd.seq fun K11 hK11 => ?_
  refine Cd.plain [(0, false)] rfl rfl ?_
  refine Jp.y 2 rfl (want_all rfl) rfl rfl Kp.true (Y.assign rfl rfl) ?_
  refine Jp.done hK11 ?_
  refine Cd.ret [(0, _), (1, _)] rfl (res1 rfl rfl) ⟨rfl, rfl, trivial⟩ ⟨rfl, b1, rfl, rfl⟩
theorem filesCopy_spec (b : Nat) (g : FilesG) : Spec Try.prog 19 #[.pointer (some ⟨b, 0, none⟩)] (RdFs g) [(0, FsPt b g), (1, UsePt g.bu g.use), (2, MapO .i64 g.bo (gmap FilG.v g.op)), (3, MapO .i64 g.bw (gmap Sl.v g.out))]
    (fun ρ ρ' v L => ρ' = ρ ∧ ∃ b' bu' bo' bw', v = .pointer (some ⟨b', 0, none⟩) ∧ L = [(0, FsPt b g), (1, UsePt g.bu g.use), (2, MapO .i64 g.bo (gmap FilG.v g.op)), (3, MapO .i64 g.bw (gmap Sl.v g.out)),
      (4, FsPt b' { g with bu := bu', bo := bo', bw := bw' }), (5, UsePt bu' g.use), (6, MapO .i64 bo' (gmap FilG.v g.op)), (7, MapO .i64 bw' (gmap Sl.v g.out))]) := by
  obtain ⟨all, bu, use, bo, op, bw, out⟩ := g
  dsimp only [FsPt, FilesG.cells]
  refine Spec.of 24 Try.func19 rfl Try.ntmps19 [(0, _)] rfl rfl ?_
  intro cx ρ hr h0
  refine Cd.seq fun K12 hK12 => ?_
  refine Cd.plain [(0, false)] rfl rfl ?_
  refine Jp.y 2 rfl (want_all rfl) rfl rfl Kp.true (Y.assign rfl rfl) ?_
  refine Jp.done hK12 ?_
  refine Cd.seq fun K13 hK13 => ?_
  refine Cd.drawn [(0, _)] ⟨rfl, trivial⟩ [(0, true), (1, true), (2, true), (3, true), (4, true), (5, true), (6, true), (7, true), (9, true), (10, true), (11, true), (12, true), (14, true), (15, true), (16, true), (17, true), (8, false), (13, false), (18, false), (19, true), (20, false), (21, true)] follows (by kernel_rfl) (fun hrl => ?_)
  refine Jp.q 3 rfl (want_all rfl) rfl rfl (Y.move rfl rfl) ?_
  refine Jp.q 4 rfl (want_all rfl) rfl rfl (Y.nilCheck rfl rfl) ?_
  refine Jp.q 5 rfl (want_all rfl) rfl rfl (by first | exact Y.fieldAddrP rfl rfl Try.underlying68 rfl Try.sizeOf26 (by decide) (show _ + 0 = _ from rfl) | exact Y.fieldAddr rfl rfl Try.underlying68 rfl Try.sizeOf26 (by decide)) ?_
  refine Jp.q 6 rfl (want_all rfl) rfl rfl (Y.loadO 0 rfl Try.isAgg26 rfl rfl rfl) ?_
  refine Jp.q 7 rfl (want_all rfl) rfl rfl (Y.move rfl rfl) ?_
  refine Jp.q 8 rfl (want_all rfl) rfl rfl (Y.nilCheck rfl rfl) ?_
  refine Jp.q 9 rfl (want_all rfl) rfl rfl (by first | exact Y.fieldAddrP rfl rfl Try.underlying68 rfl Try.sizeOf50 (by decide) (show _ + 1 = _ from rfl) | exact Y.fieldAddr rfl rfl Try.underlying68 rfl Try.sizeOf50 (by decide)) ?_
  refine Jp.q 10 rfl (want_all rfl) rfl rfl (Y.loadO 0 rfl Try.isAgg50 rfl rfl rfl) ?_
  refine Jp.q 12 rfl (want_all rfl) rfl rfl (Y.move rfl rfl) ?_
  refine Jp.q 13 rfl (want_all rfl) rfl rfl (Y.nilCheck rfl rfl) ?_
  refine Jp.q 14 rfl (want_all rfl) rfl rfl (by first | exact Y.fieldAddrP rfl rfl Try.underlying68 rfl Try.sizeOf65 (by decide) (show _ + 2 = _ from rfl) | exact Y.fieldAddr rfl rfl Try.underlying68 rfl Try.sizeOf65 (by decide)) ?_
  refine Jp.q 15 rfl (want_all rfl) rfl rfl (Y.loadO 0 rfl Try.isAgg65 rfl rfl rfl) ?_
  refine Jp.q 17 rfl (want_all rfl) rfl rfl (Y.move rfl rfl) ?_
  refine Jp.q 18 rfl (want_all rfl) rfl rfl (Y.nilCheck rfl rfl) ?_
  refine Jp.q 19 rfl (want_all rfl) rfl rfl (by first | exact Y.fieldAddrP rfl rfl Try.underlying68 rfl Try.sizeOf66 (by decide) (show _ + 3 = _ from rfl) | exact Y.fieldAddr rfl rfl Try.underlying68 rfl Try.sizeOf66 (by decide)) ?_
  refine Jp.q 20 rfl (want_all rfl) rfl rfl (Y.loadO 0 rfl Try.isAgg66 rfl rfl rfl) ?_
  refine Jp.call [1] [1, 5] (useCopy_spec bu use) 11 rfl (want_all rfl) rfl rfl (Runs.fn rfl Try.call33 rfl) (by decide) (by decide) rfl trivial ?_
  rintro v1 ρ1 L1 ⟨rfl, bu', rfl, rfl⟩
  refine ⟨rfl, fun hle1 => ⟨(Kp.st ⟨rfl, trivial⟩), ?_⟩⟩
  refine Jp.call [2] [2, 6] (cloneOp_spec bo _) 16 rfl (want_all rfl) rfl rfl (Runs.fn rfl Try.call34 rfl) (by decide) (by decide) rfl trivial ?_
  rintro v2 ρ2 L2 ⟨rfl, bo', rfl, rfl⟩
  refine ⟨rfl, fun hle2 => ⟨(Kp.st ⟨rfl, trivial⟩), ?_⟩⟩
  refine Jp.call [3] [3, 7] (cloneOut_spec bw _) 21 rfl (want_all rfl) rfl rfl (Runs.fn rfl Try.call35 rfl) (by decide) (by decide) rfl trivial ?_
  rintro v3 ρ3 L3 ⟨rfl, bw', rfl, rfl⟩
  refine ⟨rfl, fun hle3 => ⟨(Kp.st ⟨rfl, trivial⟩), ?_⟩⟩
  refine Jp.q 22 rfl (want_all rfl) rfl rfl (Y.struct [(0, _), (1, _), (2, _), (3, _)] [_, _, _, _] rfl rfl places68 Try.zeroValue68 rfl) ?_
  refine Jp.box 4 23 rfl (want_all rfl) rfl rfl rfl rfl fun b4 => ⟨(Kp.st ⟨rfl, trivial⟩), ?_⟩
  refine Jp.q 2 rfl (want_all rfl) rfl rfl (Y.assign rfl rfl) ?_
  refine Jp.done hK13 ?_
  refine Cd.ret [(0, _), (1, _), (2, _), (3, _), (4, _), (5, _), (6, _), (7, _)] rfl (res1 rfl rfl) ⟨rfl, rfl, rfl, rfl, rfl, rfl, rfl, rfl, trivial⟩ ⟨rfl, b4, bu', bo', bw', rfl, rfl⟩
end Go.Proofs.Ytogkncmhonomdaa
