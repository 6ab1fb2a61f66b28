import Derived.Test.YtogkncmhonomdaaZFilesE
import Derived.Test.YtogkncmhonomdaaZFeedJ
set_option linter.unusedVariables false
set_option linter.unusedSimpArgs false
set_option maxRecDepth 100000
namespace Go.Proofs.Ytogkncmhonomdaa
open Go
def FeedG.ofInput (s : Sl UInt8) : FeedG := ⟨⟨none, 0, []⟩, s, ⟨none, 0, []⟩, ⟨none, 0, []⟩, ⟨none, 0, []⟩, ⟨none, 0, []⟩⟩
theorem RdFeed.ofInput {s : Sl UInt8} {h : Hp} (r : RdB s h) : RdFeed (FeedG.ofInput s) h := ⟨RdS.nil 1 h, r, RdS.nil 1 h, RdS.nil 1 h, RdS.nil 1 h, RdS.nil 2 h, by simp [FeedG.ofInput]⟩
theorem f4_spec : Spec Try.prog 4 #[] (fun _ => True) [] (fun ρ ρ' v L => v = .bool true ∧ L = []) := by
  refine Spec.of 42 Try.func4 rfl Try.ntmps4 [] rfl rfl ?_
  intro cx ρ hr h0
  refine Cd.seq fun K1 hK1 => ?_
  refine Cd.plain [(0, false)] rfl rfl ?_
  refine Jp.y 0 rfl (want_all rfl) rfl rfl Kp.true (Y.assign rfl rfl) ?_
  refine Jp.done hK1 ?_
  refine Cd.seq fun K2 hK2 => ?_
  refine Cd.plain [(0, false), (1, false), (2, false), (3, false), (4, false)] rfl rfl ?_
  refine Jp.lit 5 10 [(0, _), (1, _), (2, _)] [_, _, _] rfl (want_all rfl) rfl rfl rfl rfl Try.underlying23 Try.sizeOf5 Try.zeroValue5 rfl rfl rfl rfl rfl fun b10 => ⟨Kp.true, ?_⟩
  first | refine Jp.mark 6 10 rfl (want_all rfl) rfl rfl rfl Try.underlying23 Try.underlying5 rfl rfl Kp.true ?_
  refine Jp.freeze (i := 10) rfl (RdS.up _ _ _ _ _) fun ρ1 l1 q1 => ?_
  refine Jp.y 7 rfl (want_all rfl) rfl rfl Kp.true (Y.struct [(1, _)] [_, _, _, _, _, _] rfl rfl places28 Try.zeroValue28 rfl) ?_
  refine Jp.call [] [0, 1, 2, 3] (new_files (FeedG.ofInput ⟨some ⟨b10, 0, none⟩, 3, [120, 121, 122]⟩)) 8 rfl (want_all rfl) rfl rfl (Runs.fn rfl Try.call6 rfl) (by decide) (by decide) rfl (RdFeed.ofInput q1) ?_
  rintro v2 ρ2 L2 ⟨b, ⟨all, bu, use, bo, op, bw, out⟩, rfl, rfl, hg, hp⟩
  refine ⟨rfl, fun hle2 => ⟨Kp.true, ?_⟩⟩
  dsimp only
  have hp : FilesG.p ⟨all, bu, use, bo, op, bw, out⟩ = newFP ⟨[], [120, 121, 122], [], [], [], []⟩ := hp
  refine Jp.y 1 rfl (want_all rfl) rfl rfl Kp.true (Y.assign rfl rfl) ?_
  refine Jp.done hK2 ?_
  refine Cd.seq fun K3 hK3 => ?_
  refine Cd.seq fun K4 hK4 => ?_
  refine Cd.plain [(0, false), (1, false)] rfl rfl ?_
  refine Jp.y 9 rfl (want_all rfl) rfl rfl Kp.true (Y.move rfl rfl) ?_
  refine Jp.y 10 rfl (want_all rfl) rfl rfl Kp.true (Y.ptrNil rfl Try.underlying32 rfl rfl) ?_
  refine Jp.done hK4 ?_
  refine Cd.cond rfl (fun g10 => ?_) (fun g10 => ?_)
  · skip
    exact absurd g10 (by simp [str, mkS, readV])
  try simp only [decide_eq_false_iff_not, decide_eq_true_eq, Int.not_lt, Int.not_le, Bool.not_eq_false, Bool.not_eq_true, Bool.not_true, Bool.not_false, Bool.not_eq_true', Bool.not_eq_false', beq_eq_false_iff_ne, ne_eq, beq_iff_eq, bne_iff_ne, bne_eq_false_iff_eq, Classical.not_not] at g10
  refine Cd.skip hK3 ?_
  refine Cd.seq fun K5 hK5 => ?_
  refine Cd.plain [(0, false), (1, false), (2, false), (3, false), (4, false)] rfl rfl ?_
  refine Jp.y 11 rfl (want_all rfl) rfl rfl Kp.true (Y.move rfl rfl) ?_
  refine Jp.lit 12 11 [(0, _), (1, _)] [_, _] rfl (want_all rfl) rfl rfl rfl rfl Try.underlying23 Try.sizeOf5 Try.zeroValue5 rfl rfl rfl rfl rfl fun b11 => ⟨Kp.true, ?_⟩
  first | refine Jp.mark 13 10 rfl (want_all rfl) rfl rfl rfl Try.underlying23 Try.underlying5 rfl rfl Kp.true ?_ | refine Jp.mark 13 11 rfl (want_all rfl) rfl rfl rfl Try.underlying23 Try.underlying5 rfl rfl Kp.true ?_
  refine Jp.freeze (i := 11) rfl (RdS.up _ _ _ _ _) fun ρ3 l3 q3 => ?_
  refine Jp.call [0, 2, 3] [0, 2, 3] (write_spec b ⟨all, bu, use, bo, op, bw, out⟩ 1 ⟨some ⟨b11, 0, none⟩, 2, [97, 98]⟩ (by simp)) 14 rfl (want_all rfl) rfl rfl (Runs.fn rfl Try.call15 rfl) (by decide) (by decide) rfl ⟨RdFs.up _ _ _ l3 hg, q3⟩ ?_
  rintro v3 ρ3 L3 ⟨rfl, out2, hp2, hg2, rfl⟩
  refine ⟨rfl, fun hle3 => ⟨Kp.true, ?_⟩⟩
  have hp2' := hp2.trans (congrArg (fun p => (writeFP p 1 [97, 98]).2) hp)
  rw [show (writeFP (FilesG.p ⟨all, bu, use, bo, op, bw, out⟩) 1 (Sl.xs ⟨some ⟨b11, 0, none⟩, 2, [97, 98]⟩)).1 = 2 by rw [hp]; rfl]
  refine Jp.y 2 rfl (want_all rfl) rfl rfl Kp.true (Y.assign rfl rfl) ?_
  refine Jp.done hK5 ?_
  refine Cd.seq fun K6 hK6 => ?_
  refine Cd.plain [(0, false), (1, false), (2, false), (3, false), (4, false), (5, false), (6, false)] rfl rfl ?_
  refine Jp.y 16 rfl (want_all rfl) rfl rfl Kp.true (Y.move rfl rfl) ?_
  refine Jp.call [0, 1, 2] [0, 1, 2, 5] (read_spec b ⟨all, bu, use, bo, op, bw, out2⟩ 0 2 (by rw [hp2']; unfold AtOk; decide)) 17 rfl (want_all rfl) rfl rfl (Runs.fn rfl Try.call13 rfl) (by decide) (by decide) rfl hg2 ?_
  rintro v4 ρ4 L4 ⟨rfl, use3, op3, A5, c5, hp3, hg3, rfl, rfl⟩
  refine ⟨rfl, fun hle4 => ⟨Kp.true, ?_⟩⟩
  have hp3' := hp3.trans (congrArg (fun p => (readFP p 0 2).2) hp2')
  rw [show (readFP (FilesG.p ⟨all, bu, use, bo, op, bw, out2⟩) 0 2).1 = some [120, 121] by rw [hp2']; rfl]
  refine Jp.y 15 rfl (want_all rfl) rfl rfl Kp.true (Y.move rfl rfl) ?_
  refine Jp.y 18 rfl (want_all rfl) rfl rfl Kp.true (Y.extract rfl rfl rfl) ?_
  refine Jp.y 19 rfl (want_all rfl) rfl rfl Kp.true (Y.extract rfl rfl rfl) ?_
  refine Jp.y 3 rfl (want_all rfl) rfl rfl Kp.true (Y.assign rfl rfl) ?_
  refine Jp.y 4 rfl (want_all rfl) rfl rfl Kp.true (Y.assign rfl rfl) ?_
  refine Jp.done hK6 ?_
  refine Cd.seq fun K7 hK7 => ?_
  refine Cd.plain [(0, false), (1, false), (2, false), (3, false), (4, false), (5, false), (6, false), (7, false), (8, false), (9, false), (10, false), (11, false), (12, false), (13, false), (14, false), (15, false), (16, false), (17, false), (18, false), (19, false), (20, false), (21, false), (22, false)] rfl rfl ?_
  refine Jp.y 20 rfl (want_all rfl) rfl rfl Kp.true (Y.move rfl rfl) ?_
  refine Jp.y 21 rfl (want_all rfl) rfl rfl Kp.true (Y.eql rfl rfl rfl) ?_
  refine Jp.y 22 rfl (want_all rfl) rfl rfl Kp.true (Y.move rfl rfl) ?_
  refine Jp.splitF 22 rfl (fun g22 => ?_) (fun g22 => ?_)
  · skip
    exact absurd g22 (by simp [str, mkS, readV])
  try simp only [decide_eq_false_iff_not, decide_eq_true_eq, Int.not_lt, Int.not_le, Bool.not_eq_false, Bool.not_eq_true, Bool.not_true, Bool.not_false, Bool.not_eq_true', Bool.not_eq_false', beq_eq_false_iff_ne, ne_eq, beq_iff_eq, bne_iff_ne, bne_eq_false_iff_eq, Classical.not_not] at g22
  refine Jp.y 23 rfl (want_as rfl rfl rfl rfl) rfl rfl Kp.true (Y.move rfl rfl) ?_
  refine Jp.call [0, 3] [0, 3, 6] (out_spec b ⟨all, bu, use3, bo, op3, bw, out2⟩ 1) 24 rfl (want_as rfl rfl rfl rfl) rfl rfl (Runs.fn rfl Try.call22 rfl) (by decide) (by decide) rfl hg3 ?_
  rintro v5 ρ5 L5 ⟨rfl, A6, c6, rfl, rfl⟩
  refine ⟨rfl, fun hle5 => ⟨Kp.true, ?_⟩⟩
  rw [show outFP (FilesG.p ⟨all, bu, use3, bo, op3, bw, out2⟩) 1 = [97, 98] by rw [hp3']; rfl]
  refine Jp.y 25 rfl (want_as rfl rfl rfl rfl) rfl rfl Kp.true (Y.toStr _ rfl rfl Try.underlying23 Try.underlying9 Try.underlying5 ⟨_, _, rfl⟩ (Src.own 6 rfl)) ?_
  refine Jp.y 26 rfl (want_as rfl rfl rfl rfl) rfl rfl Kp.true (Y.streql rfl rfl rfl) ?_
  refine Jp.y 27 rfl (want_all rfl) rfl rfl Kp.true (Y.pickT rfl rfl rfl) ?_
  refine Jp.y 28 rfl (want_all rfl) rfl rfl Kp.true (Y.move rfl rfl) ?_
  refine Jp.splitF 28 rfl (fun g28 => ?_) (fun g28 => ?_)
  · skip
    exact absurd g28 (by simp [str, mkS, readV])
  try simp only [decide_eq_false_iff_not, decide_eq_true_eq, Int.not_lt, Int.not_le, Bool.not_eq_false, Bool.not_eq_true, Bool.not_true, Bool.not_false, Bool.not_eq_true', Bool.not_eq_false', beq_eq_false_iff_ne, ne_eq, beq_iff_eq, bne_iff_ne, bne_eq_false_iff_eq, Classical.not_not] at g28
  refine Jp.y 29 rfl (want_as rfl rfl rfl rfl) rfl rfl Kp.true (Y.move rfl rfl) ?_
  refine Jp.y 30 rfl (want_as rfl rfl rfl rfl) rfl rfl Kp.true (Y.eql rfl rfl rfl) ?_
  refine Jp.y 31 rfl (want_all rfl) rfl rfl Kp.true (Y.pickT rfl rfl rfl) ?_
  refine Jp.y 32 rfl (want_all rfl) rfl rfl Kp.true (Y.move rfl rfl) ?_
  refine Jp.splitF 32 rfl (fun g32 => ?_) (fun g32 => ?_)
  · skip
    exact absurd g32 (by simp [str, mkS, readV])
  try simp only [decide_eq_false_iff_not, decide_eq_true_eq, Int.not_lt, Int.not_le, Bool.not_eq_false, Bool.not_eq_true, Bool.not_true, Bool.not_false, Bool.not_eq_true', Bool.not_eq_false', beq_eq_false_iff_ne, ne_eq, beq_iff_eq, bne_iff_ne, bne_eq_false_iff_eq, Classical.not_not] at g32
  refine Jp.y 33 rfl (want_as rfl rfl rfl rfl) rfl rfl Kp.true (Y.move rfl rfl) ?_
  refine Jp.y 34 rfl (want_as rfl rfl rfl rfl) rfl rfl Kp.true (Y.toStr _ rfl rfl Try.underlying23 Try.underlying9 Try.underlying5 ⟨_, _, rfl⟩ (Src.own 5 rfl)) ?_
  refine Jp.y 35 rfl (want_as rfl rfl rfl rfl) rfl rfl Kp.true (Y.streql rfl rfl rfl) ?_
  refine Jp.y 36 rfl (want_all rfl) rfl rfl Kp.true (Y.pickT rfl rfl rfl) ?_
  refine Jp.y 37 rfl (want_all rfl) rfl rfl Kp.true (Y.move rfl rfl) ?_
  refine Jp.splitF 37 rfl (fun g37 => ?_) (fun g37 => ?_)
  · skip
    exact absurd g37 (by simp [str, mkS, readV])
  try simp only [decide_eq_false_iff_not, decide_eq_true_eq, Int.not_lt, Int.not_le, Bool.not_eq_false, Bool.not_eq_true, Bool.not_true, Bool.not_false, Bool.not_eq_true', Bool.not_eq_false', beq_eq_false_iff_ne, ne_eq, beq_iff_eq, bne_iff_ne, bne_eq_false_iff_eq, Classical.not_not] at g37
  refine Jp.y 38 rfl (want_as rfl rfl rfl rfl) rfl rfl Kp.true (Y.move rfl rfl) ?_
  refine Jp.call [0] [0] (use_spec b ⟨all, bu, use3, bo, op3, bw, out2⟩) 39 rfl (want_as rfl rfl rfl rfl) rfl rfl (Runs.fn rfl Try.call20 rfl) (by decide) (by decide) rfl trivial ?_
  rintro v6 ρ6 L6 ⟨rfl, rfl, rfl⟩
  refine ⟨rfl, fun hle6 => ⟨Kp.true, ?_⟩⟩
  refine Jp.y 40 rfl (want_as rfl rfl rfl rfl) rfl rfl Kp.true (Y.ptrNotNil rfl Try.underlying50 rfl rfl) ?_
  refine Jp.y 41 rfl (want_all rfl) rfl rfl Kp.true (Y.pickT rfl rfl rfl) ?_
  refine Jp.y 0 rfl (want_all rfl) rfl rfl Kp.true (Y.assign rfl rfl) ?_
  refine Jp.done hK7 ?_
  refine Cd.ret [] rfl (res1 rfl rfl) trivial ⟨rfl, rfl⟩
end Go.Proofs.Ytogkncmhonomdaa
