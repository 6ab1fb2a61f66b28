/- Contracts of law9: awake. -/
import Derived.Test.YtjjhihlmoecmlaaFeedI
set_option linter.unusedVariables false
set_option linter.unusedSimpArgs false
set_option maxRecDepth 100000
namespace Go.Proofs.Ytjjhihlmoecmlaa
open Go
def feed0 : FeedG := ⟨⟨none, 0, []⟩, ⟨none, 0, []⟩, ⟨none, 0, []⟩, ⟨none, 0, []⟩, ⟨none, 0, []⟩, ⟨none, 0, []⟩⟩
theorem RdFeed.zero (h : Hp) : RdFeed feed0 h := ⟨RdS.nil 1 h, RdS.nil 1 h, RdS.nil 1 h, RdS.nil 1 h, RdS.nil 1 h, RdS.nil 2 h, by simp [feed0]⟩
theorem f15_spec : Spec Try.prog 15 #[] (fun _ => True) [] (fun ρ ρ' v L => v = .bool true ∧ L = []) := by
  refine Spec.of 59 Try.func15 rfl Try.ntmps15 [] rfl rfl ?_
  intro cx ρ hr h0
  refine Cd.seq fun K1 hK1 => ?_
  refine Cd.plain [(0, false)] rfl rfl ?_
  refine Jp.y 0 rfl (want_all rfl) rfl rfl Kp.true (Y.assign rfl rfl) ?_
  refine Jp.done hK1 ?_
  refine Cd.seq fun K2 hK2 => ?_
  refine Cd.plain [(0, false), (1, false), (2, false), (3, false), (4, false)] rfl rfl ?_
  refine Jp.lit 9 1 [(0, _)] [_] rfl (want_all rfl) rfl rfl rfl rfl Try.underlying22 Try.sizeOf3 Try.zeroValue3 rfl rfl rfl rfl rfl fun b1 => ⟨Kp.true, ?_⟩
  refine Jp.lit 10 2 [(0, _)] [_] rfl (want_all rfl) rfl rfl rfl rfl Try.underlying27 Try.sizeOf49 Try.zeroValue49 rfl rfl rfl rfl rfl fun b2 => ⟨Kp.true, ?_⟩
  refine Jp.freeze (i := 1) rfl (OwnS.up _ _ _ _ _ _) fun ρ1 l1 q1 => ?_
  refine Jp.freeze (i := 2) rfl (OwnS.up _ _ _ _ _ _) fun ρ2 l2 q2 => ?_
  refine Jp.y 11 rfl (want_all rfl) rfl rfl Kp.true (Y.struct [(2, _), (4, _)] [_, _, _, _, _, _] rfl rfl places35 Try.zeroValue35 rfl) ?_
  refine Jp.call [] [3] (f17_spec ⟨⟨none, 0, []⟩, ⟨none, 0, []⟩, ⟨some ⟨b1, 0, none⟩, 1, [3]⟩, ⟨none, 0, []⟩, ⟨some ⟨b2, 0, none⟩, 1, [7]⟩, ⟨none, 0, []⟩⟩) 12 rfl (want_all rfl) rfl rfl (Runs.fn rfl Try.call17 rfl) (by decide) (by decide) rfl ⟨RdS.nil 1 _, RdS.nil 1 _, RdS.up _ _ _ _ _ _ _ l2 q1.rd, RdS.nil 1 _, q2.rd, RdS.nil 2 _, by simp⟩ ?_
  rintro v3 ρ3 L3 ⟨b, u, rfl, rfl, hu, hp⟩
  refine ⟨rfl, fun hle3 => ⟨Kp.true, ?_⟩⟩
  have hp : u.p = ⟨[3], [], [7], 0, 0, 0⟩ := hp
  refine Jp.y 1 rfl (want_all rfl) rfl rfl Kp.true (Y.assign rfl rfl) ?_
  refine Jp.done hK2 ?_
  refine Cd.seq fun K3 hK3 => ?_
  refine Cd.seq fun K4 hK4 => ?_
  refine Cd.plain [(0, false), (1, false)] rfl rfl ?_
  refine Jp.y 13 rfl (want_all rfl) rfl rfl Kp.true (Y.move rfl rfl) ?_
  refine Jp.y 14 rfl (want_all rfl) rfl rfl Kp.true (Y.ptrNil rfl Try.underlying31 rfl rfl) ?_
  refine Jp.done hK4 ?_
  refine Cd.cond rfl (fun g14 => ?_) (fun g14 => ?_)
  · skip
    exact absurd g14 (by simp)
  try simp only [decide_eq_false_iff_not, decide_eq_true_eq, Int.not_lt, Int.not_le, Bool.not_eq_false, Bool.not_eq_true, Bool.not_true, Bool.not_false, Bool.not_eq_true', Bool.not_eq_false', beq_eq_false_iff_ne, ne_eq, beq_iff_eq, bne_iff_ne, bne_eq_false_iff_eq, Classical.not_not] at g14
  refine Cd.skip hK3 ?_
  refine Cd.seq fun K5 hK5 => ?_
  refine Cd.plain [(0, false), (1, false), (2, false), (3, false), (4, false), (5, false)] rfl rfl ?_
  refine Jp.y 15 rfl (want_all rfl) rfl rfl Kp.true (Y.move rfl rfl) ?_
  refine Jp.call [3] [4] (f18_spec b u 5) 16 rfl (want_all rfl) rfl rfl (Runs.fn rfl Try.call18 rfl) (by decide) (by decide) rfl hu ?_
  rintro v4 ρ4 L4 ⟨rfl, rfl, A2, rfl, u2, rfl, hu2, hp2⟩
  refine ⟨rfl, fun hle4 => ⟨Kp.true, ?_⟩⟩
  rw [show (takeP u.p 5).1 = 3 by rw [hp]; rfl]
  have hp2 : u2.p = ⟨[3], [], [7], 1, 0, 0⟩ := by rw [hp2, hp]; rfl
  refine Jp.y 17 rfl (want_all rfl) rfl rfl Kp.true (Y.move rfl rfl) ?_
  refine Jp.call [4] [5] (f18_spec b u2 5) 18 rfl (want_all rfl) rfl rfl (Runs.fn rfl Try.call18 rfl) (by decide) (by decide) rfl hu2 ?_
  rintro v5 ρ5 L5 ⟨rfl, rfl, A3, rfl, u3, rfl, hu3, hp3⟩
  refine ⟨rfl, fun hle5 => ⟨Kp.true, ?_⟩⟩
  rw [show (takeP u2.p 5).1 = 5 by rw [hp2]; rfl]
  have hp3 : u3.p = ⟨[3], [], [7], 1, 0, 0⟩ := by rw [hp3, hp2]; rfl
  refine Jp.y 2 rfl (want_all rfl) rfl rfl Kp.true (Y.assign rfl rfl) ?_
  refine Jp.y 3 rfl (want_all rfl) rfl rfl Kp.true (Y.assign rfl rfl) ?_
  refine Jp.done hK5 ?_
  refine Cd.seq fun K6 hK6 => ?_
  refine Cd.plain [(0, false), (1, false), (2, false), (3, false), (4, false), (5, false)] rfl rfl ?_
  refine Jp.y 19 rfl (want_all rfl) rfl rfl Kp.true (Y.move rfl rfl) ?_
  refine Jp.call [5] [6] (f26_spec b u3) 20 rfl (want_all rfl) rfl rfl (Runs.fn rfl Try.call26 rfl) (by decide) (by decide) rfl hu3 ?_
  rintro v6 ρ6 L6 ⟨rfl, rfl, A4, rfl, u4, rfl, hu4, hp4⟩
  refine ⟨rfl, fun hle6 => ⟨Kp.true, ?_⟩⟩
  rw [show (timeP u3.p).1 = 7 by rw [hp3]; rfl]
  have hp4 : u4.p = ⟨[3], [], [7], 1, 0, 1⟩ := by rw [hp4, hp3]; rfl
  refine Jp.y 21 rfl (want_all rfl) rfl rfl Kp.true (Y.move rfl rfl) ?_
  refine Jp.call [6] [7] (f26_spec b u4) 22 rfl (want_all rfl) rfl rfl (Runs.fn rfl Try.call26 rfl) (by decide) (by decide) rfl hu4 ?_
  rintro v7 ρ7 L7 ⟨rfl, rfl, A5, rfl, u5, rfl, hu5, hp5⟩
  refine ⟨rfl, fun hle7 => ⟨Kp.true, ?_⟩⟩
  rw [show (timeP u4.p).1 = 7 by rw [hp4]; rfl]
  have hp5 : u5.p = ⟨[3], [], [7], 1, 0, 1⟩ := by rw [hp5, hp4]; rfl
  refine Jp.y 4 rfl (want_all rfl) rfl rfl Kp.true (Y.assign rfl rfl) ?_
  refine Jp.y 5 rfl (want_all rfl) rfl rfl Kp.true (Y.assign rfl rfl) ?_
  refine Jp.done hK6 ?_
  refine Cd.seq fun K7 hK7 => ?_
  refine Cd.plain [(0, false), (1, false), (2, false), (3, false), (4, false), (5, false), (6, false), (7, false), (8, false)] rfl rfl ?_
  refine Jp.y 24 rfl (want_all rfl) rfl rfl Kp.true (Y.move rfl rfl) ?_
  refine Jp.call [7] [8] (f19_spec b u5) 25 rfl (want_all rfl) rfl rfl (Runs.fn rfl Try.call19 rfl) (by decide) (by decide) rfl trivial ?_
  rintro v8 ρ8 L8 ⟨rfl, rfl, rfl⟩
  refine ⟨rfl, fun hle8 => ⟨Kp.true, ?_⟩⟩
  rw [show u5.shorts = 1 from congrArg UseP.shorts hp5, show u5.bytes = 0 from congrArg UseP.bytes hp5, show u5.clocks = 1 from congrArg UseP.clocks hp5]
  refine Jp.y 23 rfl (want_all rfl) rfl rfl Kp.true (Y.move rfl rfl) ?_
  refine Jp.y 26 rfl (want_all rfl) rfl rfl Kp.true (Y.extract rfl rfl rfl) ?_
  refine Jp.y 27 rfl (want_all rfl) rfl rfl Kp.true (Y.extract rfl rfl rfl) ?_
  refine Jp.y 28 rfl (want_all rfl) rfl rfl Kp.true (Y.extract rfl rfl rfl) ?_
  refine Jp.y 6 rfl (want_all rfl) rfl rfl Kp.true (Y.assign rfl rfl) ?_
  refine Jp.y 7 rfl (want_all rfl) rfl rfl Kp.true (Y.assign rfl rfl) ?_
  refine Jp.y 8 rfl (want_all rfl) rfl rfl Kp.true (Y.assign rfl rfl) ?_
  refine Jp.done hK7 ?_
  refine Cd.seq fun K8 hK8 => ?_
  refine Cd.plain [(0, false), (1, false), (2, false), (3, false), (4, false), (5, false), (6, false), (7, false), (8, false), (9, false), (10, false), (11, false), (12, false), (13, false), (14, false), (15, false), (16, false), (17, false), (18, false), (19, false), (20, false), (21, false), (22, false), (23, false), (24, false), (25, false), (26, false), (27, false), (28, false), (29, false), (30, false)] rfl rfl ?_
  refine Jp.y 29 rfl (want_all rfl) rfl rfl Kp.true (Y.move rfl rfl) ?_
  refine Jp.y 30 rfl (want_all rfl) rfl rfl Kp.true (Y.eql rfl rfl rfl) ?_
  refine Jp.y 31 rfl (want_all rfl) rfl rfl Kp.true (Y.move rfl rfl) ?_
  refine Jp.splitF 31 rfl (fun g31 => ?_) (fun g31 => ?_)
  · skip
    exact absurd g31 (by simp)
  try simp only [decide_eq_false_iff_not, decide_eq_true_eq, Int.not_lt, Int.not_le, Bool.not_eq_false, Bool.not_eq_true, Bool.not_true, Bool.not_false, Bool.not_eq_true', Bool.not_eq_false', beq_eq_false_iff_ne, ne_eq, beq_iff_eq, bne_iff_ne, bne_eq_false_iff_eq, Classical.not_not] at g31
  refine Jp.y 32 rfl (want_as rfl rfl rfl rfl) rfl rfl Kp.true (Y.move rfl rfl) ?_
  refine Jp.y 33 rfl (want_as rfl rfl rfl rfl) rfl rfl Kp.true (Y.eql rfl rfl rfl) ?_
  refine Jp.y 34 rfl (want_all rfl) rfl rfl Kp.true (Y.pickT rfl rfl rfl) ?_
  refine Jp.y 35 rfl (want_all rfl) rfl rfl Kp.true (Y.move rfl rfl) ?_
  refine Jp.splitF 35 rfl (fun g35 => ?_) (fun g35 => ?_)
  · skip
    exact absurd g35 (by simp)
  try simp only [decide_eq_false_iff_not, decide_eq_true_eq, Int.not_lt, Int.not_le, Bool.not_eq_false, Bool.not_eq_true, Bool.not_true, Bool.not_false, Bool.not_eq_true', Bool.not_eq_false', beq_eq_false_iff_ne, ne_eq, beq_iff_eq, bne_iff_ne, bne_eq_false_iff_eq, Classical.not_not] at g35
  refine Jp.y 36 rfl (want_as rfl rfl rfl rfl) rfl rfl Kp.true (Y.move rfl rfl) ?_
  refine Jp.y 37 rfl (want_as rfl rfl rfl rfl) rfl rfl Kp.true (Y.eql rfl rfl rfl) ?_
  refine Jp.y 38 rfl (want_all rfl) rfl rfl Kp.true (Y.pickT rfl rfl rfl) ?_
  refine Jp.y 39 rfl (want_all rfl) rfl rfl Kp.true (Y.move rfl rfl) ?_
  refine Jp.splitF 39 rfl (fun g39 => ?_) (fun g39 => ?_)
  · skip
    exact absurd g39 (by simp)
  try simp only [decide_eq_false_iff_not, decide_eq_true_eq, Int.not_lt, Int.not_le, Bool.not_eq_false, Bool.not_eq_true, Bool.not_true, Bool.not_false, Bool.not_eq_true', Bool.not_eq_false', beq_eq_false_iff_ne, ne_eq, beq_iff_eq, bne_iff_ne, bne_eq_false_iff_eq, Classical.not_not] at g39
  refine Jp.y 40 rfl (want_as rfl rfl rfl rfl) rfl rfl Kp.true (Y.move rfl rfl) ?_
  refine Jp.y 41 rfl (want_as rfl rfl rfl rfl) rfl rfl Kp.true (Y.eql rfl rfl rfl) ?_
  refine Jp.y 42 rfl (want_all rfl) rfl rfl Kp.true (Y.pickT rfl rfl rfl) ?_
  refine Jp.y 43 rfl (want_all rfl) rfl rfl Kp.true (Y.move rfl rfl) ?_
  refine Jp.splitF 43 rfl (fun g43 => ?_) (fun g43 => ?_)
  · skip
    exact absurd g43 (by simp)
  try simp only [decide_eq_false_iff_not, decide_eq_true_eq, Int.not_lt, Int.not_le, Bool.not_eq_false, Bool.not_eq_true, Bool.not_true, Bool.not_false, Bool.not_eq_true', Bool.not_eq_false', beq_eq_false_iff_ne, ne_eq, beq_iff_eq, bne_iff_ne, bne_eq_false_iff_eq, Classical.not_not] at g43
  refine Jp.y 44 rfl (want_as rfl rfl rfl rfl) rfl rfl Kp.true (Y.move rfl rfl) ?_
  refine Jp.y 45 rfl (want_as rfl rfl rfl rfl) rfl rfl Kp.true (Y.eql rfl rfl rfl) ?_
  refine Jp.y 46 rfl (want_all rfl) rfl rfl Kp.true (Y.pickT rfl rfl rfl) ?_
  refine Jp.y 47 rfl (want_all rfl) rfl rfl Kp.true (Y.move rfl rfl) ?_
  refine Jp.splitF 47 rfl (fun g47 => ?_) (fun g47 => ?_)
  · skip
    exact absurd g47 (by simp)
  try simp only [decide_eq_false_iff_not, decide_eq_true_eq, Int.not_lt, Int.not_le, Bool.not_eq_false, Bool.not_eq_true, Bool.not_true, Bool.not_false, Bool.not_eq_true', Bool.not_eq_false', beq_eq_false_iff_ne, ne_eq, beq_iff_eq, bne_iff_ne, bne_eq_false_iff_eq, Classical.not_not] at g47
  refine Jp.y 48 rfl (want_as rfl rfl rfl rfl) rfl rfl Kp.true (Y.move rfl rfl) ?_
  refine Jp.y 49 rfl (want_as rfl rfl rfl rfl) rfl rfl Kp.true (Y.eql rfl rfl rfl) ?_
  refine Jp.y 50 rfl (want_all rfl) rfl rfl Kp.true (Y.pickT rfl rfl rfl) ?_
  refine Jp.y 51 rfl (want_all rfl) rfl rfl Kp.true (Y.move rfl rfl) ?_
  refine Jp.splitF 51 rfl (fun g51 => ?_) (fun g51 => ?_)
  · skip
    exact absurd g51 (by simp)
  try simp only [decide_eq_false_iff_not, decide_eq_true_eq, Int.not_lt, Int.not_le, Bool.not_eq_false, Bool.not_eq_true, Bool.not_true, Bool.not_false, Bool.not_eq_true', Bool.not_eq_false', beq_eq_false_iff_ne, ne_eq, beq_iff_eq, bne_iff_ne, bne_eq_false_iff_eq, Classical.not_not] at g51
  refine Jp.y 52 rfl (want_as rfl rfl rfl rfl) rfl rfl Kp.true (Y.move rfl rfl) ?_
  refine Jp.y 53 rfl (want_as rfl rfl rfl rfl) rfl rfl Kp.true (Y.eql rfl rfl rfl) ?_
  refine Jp.y 54 rfl (want_all rfl) rfl rfl Kp.true (Y.pickT rfl rfl rfl) ?_
  refine Jp.y 55 rfl (want_all rfl) rfl rfl Kp.true (Y.move rfl rfl) ?_
  refine Jp.splitF 55 rfl (fun g55 => ?_) (fun g55 => ?_)
  · skip
    exact absurd g55 (by simp)
  try simp only [decide_eq_false_iff_not, decide_eq_true_eq, Int.not_lt, Int.not_le, Bool.not_eq_false, Bool.not_eq_true, Bool.not_true, Bool.not_false, Bool.not_eq_true', Bool.not_eq_false', beq_eq_false_iff_ne, ne_eq, beq_iff_eq, bne_iff_ne, bne_eq_false_iff_eq, Classical.not_not] at g55
  refine Jp.y 56 rfl (want_as rfl rfl rfl rfl) rfl rfl Kp.true (Y.struct [] [_, _, _, _, _, _] rfl rfl places35 Try.zeroValue35 rfl) ?_
  refine Jp.call [] [] (f43_spec feed0) 57 rfl (want_as rfl rfl rfl rfl) rfl rfl (Runs.fn rfl Try.call43 rfl) (by decide) (by decide) rfl (RdFeed.zero _) ?_
  rintro v9 ρ9 L9 ⟨rfl, rfl, rfl⟩
  refine ⟨rfl, fun hle9 => ⟨Kp.true, ?_⟩⟩
  refine Jp.y 58 rfl (want_all rfl) rfl rfl Kp.true (Y.pickT rfl rfl rfl) ?_
  refine Jp.y 0 rfl (want_all rfl) rfl rfl Kp.true (Y.assign rfl rfl) ?_
  refine Jp.done hK8 ?_
  refine Cd.ret [] rfl (res1 rfl rfl) trivial ⟨rfl, rfl⟩
/-- A feed of short answers only. -/
def FeedG.ofShort (s : Sl Int) : FeedG := ⟨⟨none, 0, []⟩, ⟨none, 0, []⟩, s, ⟨none, 0, []⟩, ⟨none, 0, []⟩, ⟨none, 0, []⟩⟩
theorem RdFeed.ofShort {s : Sl Int} {h : Hp} (r : RdI .i64 s h) : RdFeed (FeedG.ofShort s) h := ⟨RdS.nil 1 h, RdS.nil 1 h, r, RdS.nil 1 h, RdS.nil 1 h, RdS.nil 2 h, by simp [FeedG.ofShort]⟩
/-- What is taken after the first k requests. -/
def takesP (u : UseP) (l : List Int) : Nat → UseP
  | 0 => u
  | k + 1 => (takeP (takesP u l k) (l.getD k 0)).2
theorem f3_spec (s l : Sl Int) : Spec Try.prog 3 #[s.v, l.v] (fun h => RdI .i64 s h ∧ RdI .i64 l h) [] (fun ρ ρ' v L => v = .bool true ∧ L = []) := by
  obtain ⟨As, cs, xs⟩ := s
  obtain ⟨Al, cl, xl⟩ := l
  dsimp only [Sl.v]
  refine Spec.of 83 Try.func3 rfl Try.ntmps3 [(0, _), (1, _)] rfl rfl ?_
  intro cx ρ hr h0
  obtain ⟨hrs, hrl⟩ := hr
  have ls : xs.length ≤ 281474976710656 := hrs.2.1.2
  have ll : xl.length ≤ 281474976710656 := hrl.2.1.2
  refine Cd.seq fun K9 hK9 => ?_
  refine Cd.plain [(0, false)] rfl rfl ?_
  refine Jp.y 4 rfl (want_all rfl) rfl rfl Kp.true (Y.assign rfl rfl) ?_
  refine Jp.done hK9 ?_
  refine Cd.seq fun K10 hK10 => ?_
  refine Cd.seq fun K11 hK11 => ?_
  refine Cd.plain [(0, false), (1, false)] rfl rfl ?_
  refine Jp.call [] [] f15_spec 13 rfl (want_all rfl) rfl rfl (Runs.fn rfl Try.call15 rfl) (by decide) (by decide) rfl trivial ?_
  rintro v1 ρ1 L1 ⟨rfl, rfl⟩
  refine ⟨rfl, fun hle1 => ⟨Kp.true, ?_⟩⟩
  have hrs := RdI.up _ _ _ _ hle1 hrs
  have hrl := RdI.up _ _ _ _ hle1 hrl
  refine Jp.y 14 rfl (want_all rfl) rfl rfl Kp.true (Y.not rfl rfl) ?_
  refine Jp.done hK11 ?_
  refine Cd.cond rfl (fun g14 => ?_) (fun g14 => ?_)
  · skip
    exact absurd g14 (by simp)
  try simp only [decide_eq_false_iff_not, decide_eq_true_eq, Int.not_lt, Int.not_le, Bool.not_eq_false, Bool.not_eq_true, Bool.not_true, Bool.not_false, Bool.not_eq_true', Bool.not_eq_false', beq_eq_false_iff_ne, ne_eq, beq_iff_eq, bne_iff_ne, bne_eq_false_iff_eq, Classical.not_not] at g14
  refine Cd.skip hK10 ?_
  refine Cd.seq fun K12 hK12 => ?_
  refine Cd.seq fun K13 hK13 => ?_
  refine Cd.plain [(0, false), (1, false), (2, false), (3, false), (4, false), (5, false), (6, false), (7, false)] rfl rfl ?_
  refine Jp.y 15 rfl (want_all rfl) rfl rfl Kp.true (Y.move rfl rfl) ?_
  refine Jp.y 16 rfl (want_all rfl) rfl rfl Kp.true (Y.lenslice rfl Try.underlying22 rfl) ?_
  refine Jp.y 17 rfl (want_all rfl) rfl rfl Kp.true (Y.gtr rfl rfl rfl) ?_
  refine Jp.y 18 rfl (want_all rfl) rfl rfl Kp.true (Y.move rfl rfl) ?_
  refine Jp.split 18 rfl (fun g18 => ?_) (fun g18 => ?_)
  · skip
    refine Jp.skip 19 rfl (want_as rfl rfl rfl rfl) rfl rfl Kp.true ?_
    refine Jp.skip 20 rfl (want_as rfl rfl rfl rfl) rfl rfl Kp.true ?_
    refine Jp.skip 21 rfl (want_as rfl rfl rfl rfl) rfl rfl Kp.true ?_
    refine Jp.y 22 rfl (want_all rfl) rfl rfl Kp.true (Y.pickT rfl rfl rfl) ?_
    refine Jp.done hK13 ?_
    refine Cd.condT rfl ?_
    refine Cd.seq fun K14 hK14 => ?_
    refine Cd.plain [(0, false)] rfl rfl ?_
    refine Jp.y 4 rfl (want_all rfl) rfl rfl Kp.true (Y.assign rfl rfl) ?_
    refine Jp.done hK14 ?_
    refine Cd.ret [] rfl (res1 rfl rfl) trivial ⟨rfl, rfl⟩
  try simp only [decide_eq_false_iff_not, decide_eq_true_eq, Int.not_lt, Int.not_le, Bool.not_eq_false, Bool.not_eq_true, Bool.not_true, Bool.not_false, Bool.not_eq_true', Bool.not_eq_false', beq_eq_false_iff_ne, ne_eq, beq_iff_eq, bne_iff_ne, bne_eq_false_iff_eq, Classical.not_not] at g18
  refine Jp.y 19 rfl (want_as rfl rfl rfl rfl) rfl rfl Kp.true (Y.move rfl rfl) ?_
  refine Jp.y 20 rfl (want_as rfl rfl rfl rfl) rfl rfl Kp.true (Y.lenslice rfl Try.underlying22 rfl) ?_
  refine Jp.y 21 rfl (want_as rfl rfl rfl rfl) rfl rfl Kp.true (Y.gtr rfl rfl rfl) ?_
  refine Jp.y 22 rfl (want_all rfl) rfl rfl Kp.true (Y.pickF rfl rfl rfl) ?_
  refine Jp.done hK13 ?_
  refine Cd.cond rfl (fun g22 => ?_) (fun g22 => ?_)
  · skip
    refine Cd.seq fun K15 hK15 => ?_
    refine Cd.plain [(0, false)] rfl rfl ?_
    refine Jp.y 4 rfl (want_all rfl) rfl rfl Kp.true (Y.assign rfl rfl) ?_
    refine Jp.done hK15 ?_
    refine Cd.ret [] rfl (res1 rfl rfl) trivial ⟨rfl, rfl⟩
  try simp only [decide_eq_false_iff_not, decide_eq_true_eq, Int.not_lt, Int.not_le, Bool.not_eq_false, Bool.not_eq_true, Bool.not_true, Bool.not_false, Bool.not_eq_true', Bool.not_eq_false', beq_eq_false_iff_ne, ne_eq, beq_iff_eq, bne_iff_ne, bne_eq_false_iff_eq, Classical.not_not] at g22
  refine Cd.skip hK12 ?_
  refine Cd.seq fun K16 hK16 => ?_
  refine Cd.seq fun K17 hK17 => ?_
  refine Cd.plain [(0, false), (1, false), (2, false), (3, false)] rfl rfl ?_
  refine Jp.y 23 rfl (want_all rfl) rfl rfl Kp.true (Y.move rfl rfl) ?_
  refine Jp.y 24 rfl (want_all rfl) rfl rfl Kp.true (Y.struct [(2, _)] [_, _, _, _, _, _] rfl rfl places30 Try.zeroValue30 rfl) ?_
  refine Jp.call [] [] (f16_spec (FeedG.ofShort ⟨As, cs, xs⟩)) 25 rfl (want_all rfl) rfl rfl (Runs.fn rfl Try.call16 rfl) (by decide) (by decide) rfl (RdFeed.ofShort hrs) ?_
  rintro v2 ρ2 L2 ⟨rfl, rfl, rfl⟩
  refine ⟨rfl, fun hle2 => ⟨Kp.true, ?_⟩⟩
  refine Jp.y 26 rfl (want_all rfl) rfl rfl Kp.true (Y.not rfl rfl) ?_
  refine Jp.done hK17 ?_
  refine Cd.cond rfl (fun g26 => ?_) (fun g26 => ?_)
  · skip
    refine Cd.seq fun K18 hK18 => ?_
    refine Cd.plain [(0, false)] rfl rfl ?_
    refine Jp.y 4 rfl (want_all rfl) rfl rfl Kp.true (Y.assign rfl rfl) ?_
    refine Jp.done hK18 ?_
    refine Cd.ret [] rfl (res1 rfl rfl) trivial ⟨rfl, rfl⟩
  try simp only [decide_eq_false_iff_not, decide_eq_true_eq, Int.not_lt, Int.not_le, Bool.not_eq_false, Bool.not_eq_true, Bool.not_true, Bool.not_false, Bool.not_eq_true', Bool.not_eq_false', beq_eq_false_iff_ne, ne_eq, beq_iff_eq, bne_iff_ne, bne_eq_false_iff_eq, Classical.not_not] at g26
  refine Cd.skip hK16 ?_
  refine Cd.seq fun K19 hK19 => ?_
  refine Cd.plain [(0, false), (1, false), (2, false), (3, false)] rfl rfl ?_
  refine Jp.y 27 rfl (want_all rfl) rfl rfl Kp.true (Y.move rfl rfl) ?_
  refine Jp.y 28 rfl (want_all rfl) rfl rfl Kp.true (Y.struct [(2, _)] [_, _, _, _, _, _] rfl rfl places35 Try.zeroValue35 rfl) ?_
  refine Jp.call [] [1] (f17_spec (FeedG.ofShort ⟨As, cs, xs⟩)) 29 rfl (want_all rfl) rfl rfl (Runs.fn rfl Try.call17 rfl) (by decide) (by decide) rfl (RdFeed.ofShort hrs) ?_
  rintro v3 ρ3 L3 ⟨b, u, rfl, rfl, hu, hp⟩
  refine ⟨rfl, fun hle3 => ⟨Kp.true, ?_⟩⟩
  refine Jp.y 5 rfl (want_all rfl) rfl rfl Kp.true (Y.assign rfl rfl) ?_
  refine Jp.done hK19 ?_
  refine Cd.seq fun K20 hK20 => ?_
  refine Cd.plain [(0, false)] rfl rfl ?_
  refine Jp.y 6 rfl (want_all rfl) rfl rfl Kp.true (Y.assign rfl rfl) ?_
  refine Jp.done hK20 ?_
  refine Cd.seq fun K21 hK21 => ?_
  refine Cd.seq fun K22 hK22 => ?_
  refine Cd.plain [(0, false)] rfl rfl ?_
  refine Jp.y 7 rfl (want_all rfl) rfl rfl Kp.true (Y.assign rfl rfl) ?_
  refine Jp.done hK22 ?_
  refine Cd.block ?_
  have hgood : good (FeedG.ofShort ⟨As, cs, xs⟩).p = true := by simpa using g26
  have hp : u.p = ⟨xs, [], [], 0, 0, 0⟩ := by rw [hp, beginP, hgood]; rfl
  have hl1 : xs.length ≤ 64 := by omega
  have hl2 : xl.length ≤ 80 := by omega
  have hrl : RdI .i64 ⟨Al, cl, xl⟩ ρ3 := RdI.up _ _ _ _ hle3 hrl
  have hrs : RdI .i64 ⟨As, cs, xs⟩ ρ3 := RdI.up _ _ _ _ hle3 hrs
  refine Cd.loop (G := Nat × Nat × UseG) (fun g => g.1 ≤ xl.length ∧ RdUse g.2.2 ρ3 ∧ g.2.2.p = ⟨xs, [], [], g.2.1, 0, 0⟩ ∧ g.2.1 ≤ xs.length) (fun g => xl.length - g.1) (fun _ => ρ3) (fun g => [(0, .slice As xs.length cs), (1, .slice Al xl.length cl), (5, .pointer (some ⟨b, 0, none⟩)), (6, .int .i64 g.2.1), (7, .int .i64 g.1)]) (fun g => [(1, UsePt b g.2.2)]) (0, 0, u) ⟨Nat.zero_le _, hu, hp, Nat.zero_le _⟩ rfl ⟨rfl, rfl, rfl, rfl, rfl, trivial⟩ ⟨rfl, trivial⟩ (fun g KLa hok hLa => ?_)
  obtain ⟨k, m, u⟩ := g
  obtain ⟨ok1, ok2, ok3, ok4⟩ := hok
  dsimp only at ok1 ok2 ok3 ok4 ⊢
  refine Cd.seq fun K23 hK23 => ?_
  refine Cd.seq fun K24 hK24 => ?_
  refine Cd.plain [(0, false), (1, false), (2, false), (3, false)] rfl rfl ?_
  refine Jp.y 30 rfl (want_all rfl) rfl rfl Kp.true (Y.move rfl rfl) ?_
  refine Jp.y 31 rfl (want_all rfl) rfl rfl Kp.true (Y.move rfl rfl) ?_
  refine Jp.y 32 rfl (want_all rfl) rfl rfl Kp.true (Y.lenslice rfl Try.underlying22 rfl) ?_
  refine Jp.y 33 rfl (want_all rfl) rfl rfl Kp.true (Y.lss rfl rfl rfl) ?_
  refine Jp.done hK24 ?_
  refine Cd.cond rfl (fun ga => ?_) (fun ga => ?_)
  · simp only [decide_eq_true_eq] at ga
    have hk : k < xl.length := by omega
    have hkx : xl[k]? = some xl[k] := by simp [hk]
    obtain ⟨al, rfl⟩ := hrl.some (show 0 < xl.length * 1 by omega)
    have hcl : cellH ρ3 (al.add k) = some (.int .i64 xl[k]) := hrl.cell (by simp [intsV, hk])
    refine Cd.skip hK23 ?_
    refine Cd.seq fun K25 hK25 => ?_
    refine Cd.block ?_
    refine Cd.seq fun K26 hK26 => ?_
    refine Cd.plain [(0, false), (1, false), (2, false), (3, false), (4, false), (5, false), (6, false)] rfl rfl ?_
    refine Jp.y 36 rfl (want_all rfl) rfl rfl Kp.true (Y.move rfl rfl) ?_
    refine Jp.y 37 rfl (want_all rfl) rfl rfl Kp.true (Y.move rfl rfl) ?_
    refine Jp.y 38 rfl (want_all rfl) rfl rfl Kp.true (Y.move rfl rfl) ?_
    refine Jp.y 39 rfl (want_all rfl) rfl rfl Kp.true (Y.indexAddr (q := k) rfl rfl rfl Try.underlying22 Try.sizeOf3 (by omega) (by omega) (by omega)) ?_
    refine Jp.y 40 rfl (want_all rfl) rfl rfl Kp.true (Y.loadR rfl Try.isAgg3 rfl hcl) ?_
    refine Jp.call [1] [1] (f18_spec b u xl[k]) 41 rfl (want_all rfl) rfl rfl (Runs.fn rfl Try.call18 rfl) (by decide) (by decide) rfl ok2 ?_
    rintro v4 ρ4 L4 ⟨rfl, rfl, A2, rfl, u2, rfl, hu2, hp2⟩
    refine ⟨rfl, fun hle4 => ⟨Kp.true, ?_⟩⟩
    rw [ok3] at hp2
    rw [ok3]
    refine Jp.y 8 rfl (want_all rfl) rfl rfl Kp.true (Y.assign rfl rfl) ?_
    refine Jp.done hK26 ?_
    refine Cd.seq fun K27 hK27 => ?_
    refine Cd.seq fun K28 hK28 => ?_
    refine Cd.plain [(0, false), (1, false), (2, false), (3, false), (4, false)] rfl rfl ?_
    refine Jp.y 42 rfl (want_all rfl) rfl rfl Kp.true (Y.move rfl rfl) ?_
    refine Jp.y 43 rfl (want_all rfl) rfl rfl Kp.true (Y.move rfl rfl) ?_
    refine Jp.y 44 rfl (want_all rfl) rfl rfl Kp.true (Y.indexAddr (q := k) rfl rfl rfl Try.underlying22 Try.sizeOf3 (by omega) (by omega) (by omega)) ?_
    refine Jp.y 45 rfl (want_all rfl) rfl rfl Kp.true (Y.loadR rfl Try.isAgg3 rfl hcl) ?_
    refine Jp.y 46 rfl (want_all rfl) rfl rfl Kp.true (Y.lss rfl rfl rfl) ?_
    refine Jp.done hK28 ?_
    refine Cd.cond rfl (fun gb => ?_) (fun gb => ?_)
    · simp only [decide_eq_true_eq] at gb
      rw [show takeP ⟨xs, [], [], m, 0, 0⟩ xl[k] = (0, ⟨xs, [], [], m, 0, 0⟩) by rw [takeP, if_pos gb]] at hp2 ⊢
      refine Cd.seq fun K29 hK29 => ?_
      refine Cd.seq fun K30 hK30 => ?_
      refine Cd.plain [(0, false), (1, false)] rfl rfl ?_
      refine Jp.y 47 rfl (want_all rfl) rfl rfl Kp.true (Y.move rfl rfl) ?_
      refine Jp.y 48 rfl (want_all rfl) rfl rfl Kp.true (Y.neq rfl rfl rfl) ?_
      refine Jp.done hK30 ?_
      refine Cd.cond rfl (fun g48 => ?_) (fun g48 => ?_)
      · skip
        exact absurd g48 (by simp)
      try simp only [decide_eq_false_iff_not, decide_eq_true_eq, Int.not_lt, Int.not_le, Bool.not_eq_false, Bool.not_eq_true, Bool.not_true, Bool.not_false, Bool.not_eq_true', Bool.not_eq_false', beq_eq_false_iff_ne, ne_eq, beq_iff_eq, bne_iff_ne, bne_eq_false_iff_eq, Classical.not_not] at g48
      refine Cd.skip hK29 ?_
      refine Cd.exit rfl hK25 ?_
      refine Cd.plain [(0, false), (1, false), (2, false)] rfl rfl ?_
      refine Jp.y 34 rfl (want_all rfl) rfl rfl Kp.true (Y.move rfl rfl) ?_
      refine Jp.y 35 rfl (want_all rfl) rfl rfl Kp.true (Y.add_ rfl rfl rfl (by first | exact wrap_i64 (by omega) (by omega) | rfl)) ?_
      refine Jp.y 7 rfl (want_all rfl) rfl rfl Kp.true (Y.assign rfl rfl) ?_
      refine Jp.again hLa (k + 1, m, u2) ⟨by dsimp only; omega, hu2, hp2, ok4⟩ (by dsimp only; omega) rfl ⟨rfl, rfl, rfl, rfl, rfl, trivial⟩ ⟨rfl, trivial⟩
    · simp only [decide_eq_false_iff_not] at gb
      refine Cd.skip hK27 ?_
      refine Cd.seq fun K31 hK31 => ?_
      refine Cd.plain [(0, false), (1, false), (2, false), (3, false), (4, false)] rfl rfl ?_
      refine Jp.y 49 rfl (want_all rfl) rfl rfl Kp.true (Y.move rfl rfl) ?_
      refine Jp.y 50 rfl (want_all rfl) rfl rfl Kp.true (Y.move rfl rfl) ?_
      refine Jp.y 51 rfl (want_all rfl) rfl rfl Kp.true (Y.indexAddr (q := k) rfl rfl rfl Try.underlying22 Try.sizeOf3 (by omega) (by omega) (by omega)) ?_
      refine Jp.y 52 rfl (want_all rfl) rfl rfl Kp.true (Y.loadR rfl Try.isAgg3 rfl hcl) ?_
      refine Jp.y 9 rfl (want_all rfl) rfl rfl Kp.true (Y.assign rfl rfl) ?_
      refine Jp.done hK31 ?_
      refine Cd.seq fun K32 hK32 => ?_
      refine Cd.seq fun K33 hK33 => ?_
      refine Cd.plain [(0, false), (1, false), (2, false), (3, false)] rfl rfl ?_
      refine Jp.y 53 rfl (want_all rfl) rfl rfl Kp.true (Y.move rfl rfl) ?_
      refine Jp.y 54 rfl (want_all rfl) rfl rfl Kp.true (Y.move rfl rfl) ?_
      refine Jp.y 55 rfl (want_all rfl) rfl rfl Kp.true (Y.lenslice rfl Try.underlying22 rfl) ?_
      refine Jp.y 56 rfl (want_all rfl) rfl rfl Kp.true (Y.lss rfl rfl rfl) ?_
      refine Jp.done hK33 ?_
      refine Cd.cond rfl (fun gc => ?_) (fun gc => ?_)
      · simp only [decide_eq_true_eq] at gc
        have hm : m < xs.length := by omega
        have hmx : xs[m]? = some xs[m] := by simp [hm]
        obtain ⟨ash, rfl⟩ := hrs.some (show 0 < xs.length * 1 by omega)
        have hcs : cellH ρ4 (ash.add m) = some (.int .i64 xs[m]) := hrs.cell (by simp [intsV, hm])
        refine Cd.seq fun K34 hK34 => ?_
        refine Cd.seq fun K35 hK35 => ?_
        refine Cd.plain [(0, false), (1, false), (2, false), (3, false), (4, false), (5, false)] rfl rfl ?_
        refine Jp.y 57 rfl (want_all rfl) rfl rfl Kp.true (Y.move rfl rfl) ?_
        refine Jp.y 58 rfl (want_all rfl) rfl rfl Kp.true (Y.move rfl rfl) ?_
        refine Jp.y 59 rfl (want_all rfl) rfl rfl Kp.true (Y.indexAddr (q := m) rfl rfl rfl Try.underlying22 Try.sizeOf3 (by omega) (by omega) (by omega)) ?_
        refine Jp.y 60 rfl (want_all rfl) rfl rfl Kp.true (Y.loadR rfl Try.isAgg3 rfl hcs) ?_
        refine Jp.y 61 rfl (want_all rfl) rfl rfl Kp.true (Y.move rfl rfl) ?_
        refine Jp.y 62 rfl (want_all rfl) rfl rfl Kp.true (Y.lss rfl rfl rfl) ?_
        refine Jp.done hK35 ?_
        refine Cd.cond rfl (fun gd => ?_) (fun gd => ?_)
        · simp only [decide_eq_true_eq] at gd
          rw [show takeP ⟨xs, [], [], m, 0, 0⟩ xl[k] = (xs[m], ⟨xs, [], [], m + 1, 0, 0⟩) by simp only [takeP, if_neg gb, hmx, if_pos gd]] at hp2 ⊢
          refine Cd.plain [(0, false), (1, false), (2, false), (3, false), (4, false)] rfl rfl ?_
          refine Jp.y 63 rfl (want_all rfl) rfl rfl Kp.true (Y.move rfl rfl) ?_
          refine Jp.y 64 rfl (want_all rfl) rfl rfl Kp.true (Y.move rfl rfl) ?_
          refine Jp.y 65 rfl (want_all rfl) rfl rfl Kp.true (Y.indexAddr (q := m) rfl rfl rfl Try.underlying22 Try.sizeOf3 (by omega) (by omega) (by omega)) ?_
          refine Jp.y 66 rfl (want_all rfl) rfl rfl Kp.true (Y.loadR rfl Try.isAgg3 rfl hcs) ?_
          refine Jp.y 9 rfl (want_all rfl) rfl rfl Kp.true (Y.assign rfl rfl) ?_
          refine Jp.done hK34 ?_
          refine Cd.plain [(0, false), (1, false), (2, false)] rfl rfl ?_
          refine Jp.y 67 rfl (want_all rfl) rfl rfl Kp.true (Y.move rfl rfl) ?_
          refine Jp.y 68 rfl (want_all rfl) rfl rfl Kp.true (Y.add_ rfl rfl rfl (by first | exact wrap_i64 (by omega) (by omega) | rfl)) ?_
          refine Jp.y 6 rfl (want_all rfl) rfl rfl Kp.true (Y.assign rfl rfl) ?_
          refine Jp.done hK32 ?_
          refine Cd.seq fun K36 hK36 => ?_
          refine Cd.plain [(0, false), (1, false), (2, false), (3, false), (4, false), (5, false), (6, false), (7, false), (8, false)] rfl rfl ?_
          refine Jp.y 70 rfl (want_all rfl) rfl rfl Kp.true (Y.move rfl rfl) ?_
          refine Jp.call [1] [1] (f19_spec b u2) 71 rfl (want_all rfl) rfl rfl (Runs.fn rfl Try.call19 rfl) (by decide) (by decide) rfl trivial ?_
          rintro v5 ρ5 L5 ⟨rfl, rfl, rfl⟩
          refine ⟨rfl, fun hle5 => ⟨Kp.true, ?_⟩⟩
          rw [show u2.shorts = (m + 1) from congrArg UseP.shorts hp2]
          refine Jp.y 69 rfl (want_all rfl) rfl rfl Kp.true (Y.move rfl rfl) ?_
          refine Jp.y 72 rfl (want_all rfl) rfl rfl Kp.true (Y.extract rfl rfl rfl) ?_
          refine Jp.y 73 rfl (want_all rfl) rfl rfl Kp.true (Y.extract rfl rfl rfl) ?_
          refine Jp.y 74 rfl (want_all rfl) rfl rfl Kp.true (Y.extract rfl rfl rfl) ?_
          refine Jp.y 10 rfl (want_all rfl) rfl rfl Kp.true (Y.assign rfl rfl) ?_
          refine Jp.y 11 rfl (want_all rfl) rfl rfl Kp.true (Y.assign rfl rfl) ?_
          refine Jp.y 12 rfl (want_all rfl) rfl rfl Kp.true (Y.assign rfl rfl) ?_
          refine Jp.done hK36 ?_
          refine Cd.seq fun K37 hK37 => ?_
          refine Cd.plain [(0, false), (1, false), (2, false), (3, false), (4, false), (5, false), (6, false), (7, false)] rfl rfl ?_
          refine Jp.y 75 rfl (want_all rfl) rfl rfl Kp.true (Y.move rfl rfl) ?_
          refine Jp.y 76 rfl (want_all rfl) rfl rfl Kp.true (Y.move rfl rfl) ?_
          refine Jp.y 77 rfl (want_all rfl) rfl rfl Kp.true (Y.neq rfl rfl rfl) ?_
          refine Jp.y 78 rfl (want_all rfl) rfl rfl Kp.true (Y.move rfl rfl) ?_
          refine Jp.split 78 rfl (fun g78 => ?_) (fun g78 => ?_)
          · skip
            exact absurd g78 (by simp)
          try simp only [decide_eq_false_iff_not, decide_eq_true_eq, Int.not_lt, Int.not_le, Bool.not_eq_false, Bool.not_eq_true, Bool.not_true, Bool.not_false, Bool.not_eq_true', Bool.not_eq_false', beq_eq_false_iff_ne, ne_eq, beq_iff_eq, bne_iff_ne, bne_eq_false_iff_eq, Classical.not_not] at g78
          refine Jp.y 79 rfl (want_as rfl rfl rfl rfl) rfl rfl Kp.true (Y.move rfl rfl) ?_
          refine Jp.y 80 rfl (want_as rfl rfl rfl rfl) rfl rfl Kp.true (Y.move rfl rfl) ?_
          refine Jp.y 81 rfl (want_as rfl rfl rfl rfl) rfl rfl Kp.true (Y.neq rfl rfl rfl) ?_
          refine Jp.y 82 rfl (want_all rfl) rfl rfl Kp.true (Y.pickF rfl rfl rfl) ?_
          refine Jp.done hK37 ?_
          refine Cd.cond rfl (fun g82 => ?_) (fun g82 => ?_)
          · skip
            exact absurd g82 (by simp)
          try simp only [decide_eq_false_iff_not, decide_eq_true_eq, Int.not_lt, Int.not_le, Bool.not_eq_false, Bool.not_eq_true, Bool.not_true, Bool.not_false, Bool.not_eq_true', Bool.not_eq_false', beq_eq_false_iff_ne, ne_eq, beq_iff_eq, bne_iff_ne, bne_eq_false_iff_eq, Classical.not_not] at g82
          refine Cd.over rfl hK25 ?_
          refine Cd.plain [(0, false), (1, false), (2, false)] rfl rfl ?_
          refine Jp.y 34 rfl (want_all rfl) rfl rfl Kp.true (Y.move rfl rfl) ?_
          refine Jp.y 35 rfl (want_all rfl) rfl rfl Kp.true (Y.add_ rfl rfl rfl (by first | exact wrap_i64 (by omega) (by omega) | rfl)) ?_
          refine Jp.y 7 rfl (want_all rfl) rfl rfl Kp.true (Y.assign rfl rfl) ?_
          refine Jp.again hLa (k + 1, (m + 1), u2) ⟨by dsimp only; omega, hu2, hp2, by dsimp only; omega⟩ (by dsimp only; omega) rfl ⟨rfl, rfl, rfl, rfl, rfl, trivial⟩ ⟨rfl, trivial⟩
        · simp only [decide_eq_false_iff_not] at gd
          rw [show takeP ⟨xs, [], [], m, 0, 0⟩ xl[k] = (xl[k], ⟨xs, [], [], m + 1, 0, 0⟩) by simp only [takeP, if_neg gb, hmx, if_neg gd]] at hp2 ⊢
          refine Cd.skip hK34 ?_
          refine Cd.plain [(0, false), (1, false), (2, false)] rfl rfl ?_
          refine Jp.y 67 rfl (want_all rfl) rfl rfl Kp.true (Y.move rfl rfl) ?_
          refine Jp.y 68 rfl (want_all rfl) rfl rfl Kp.true (Y.add_ rfl rfl rfl (by first | exact wrap_i64 (by omega) (by omega) | rfl)) ?_
          refine Jp.y 6 rfl (want_all rfl) rfl rfl Kp.true (Y.assign rfl rfl) ?_
          refine Jp.done hK32 ?_
          refine Cd.seq fun K38 hK38 => ?_
          refine Cd.plain [(0, false), (1, false), (2, false), (3, false), (4, false), (5, false), (6, false), (7, false), (8, false)] rfl rfl ?_
          refine Jp.y 70 rfl (want_all rfl) rfl rfl Kp.true (Y.move rfl rfl) ?_
          refine Jp.call [1] [1] (f19_spec b u2) 71 rfl (want_all rfl) rfl rfl (Runs.fn rfl Try.call19 rfl) (by decide) (by decide) rfl trivial ?_
          rintro v5 ρ5 L5 ⟨rfl, rfl, rfl⟩
          refine ⟨rfl, fun hle5 => ⟨Kp.true, ?_⟩⟩
          rw [show u2.shorts = (m + 1) from congrArg UseP.shorts hp2]
          refine Jp.y 69 rfl (want_all rfl) rfl rfl Kp.true (Y.move rfl rfl) ?_
          refine Jp.y 72 rfl (want_all rfl) rfl rfl Kp.true (Y.extract rfl rfl rfl) ?_
          refine Jp.y 73 rfl (want_all rfl) rfl rfl Kp.true (Y.extract rfl rfl rfl) ?_
          refine Jp.y 74 rfl (want_all rfl) rfl rfl Kp.true (Y.extract rfl rfl rfl) ?_
          refine Jp.y 10 rfl (want_all rfl) rfl rfl Kp.true (Y.assign rfl rfl) ?_
          refine Jp.y 11 rfl (want_all rfl) rfl rfl Kp.true (Y.assign rfl rfl) ?_
          refine Jp.y 12 rfl (want_all rfl) rfl rfl Kp.true (Y.assign rfl rfl) ?_
          refine Jp.done hK38 ?_
          refine Cd.seq fun K39 hK39 => ?_
          refine Cd.plain [(0, false), (1, false), (2, false), (3, false), (4, false), (5, false), (6, false), (7, false)] rfl rfl ?_
          refine Jp.y 75 rfl (want_all rfl) rfl rfl Kp.true (Y.move rfl rfl) ?_
          refine Jp.y 76 rfl (want_all rfl) rfl rfl Kp.true (Y.move rfl rfl) ?_
          refine Jp.y 77 rfl (want_all rfl) rfl rfl Kp.true (Y.neq rfl rfl rfl) ?_
          refine Jp.y 78 rfl (want_all rfl) rfl rfl Kp.true (Y.move rfl rfl) ?_
          refine Jp.split 78 rfl (fun g78 => ?_) (fun g78 => ?_)
          · skip
            exact absurd g78 (by simp)
          try simp only [decide_eq_false_iff_not, decide_eq_true_eq, Int.not_lt, Int.not_le, Bool.not_eq_false, Bool.not_eq_true, Bool.not_true, Bool.not_false, Bool.not_eq_true', Bool.not_eq_false', beq_eq_false_iff_ne, ne_eq, beq_iff_eq, bne_iff_ne, bne_eq_false_iff_eq, Classical.not_not] at g78
          refine Jp.y 79 rfl (want_as rfl rfl rfl rfl) rfl rfl Kp.true (Y.move rfl rfl) ?_
          refine Jp.y 80 rfl (want_as rfl rfl rfl rfl) rfl rfl Kp.true (Y.move rfl rfl) ?_
          refine Jp.y 81 rfl (want_as rfl rfl rfl rfl) rfl rfl Kp.true (Y.neq rfl rfl rfl) ?_
          refine Jp.y 82 rfl (want_all rfl) rfl rfl Kp.true (Y.pickF rfl rfl rfl) ?_
          refine Jp.done hK39 ?_
          refine Cd.cond rfl (fun g82 => ?_) (fun g82 => ?_)
          · skip
            exact absurd g82 (by simp)
          try simp only [decide_eq_false_iff_not, decide_eq_true_eq, Int.not_lt, Int.not_le, Bool.not_eq_false, Bool.not_eq_true, Bool.not_true, Bool.not_false, Bool.not_eq_true', Bool.not_eq_false', beq_eq_false_iff_ne, ne_eq, beq_iff_eq, bne_iff_ne, bne_eq_false_iff_eq, Classical.not_not] at g82
          refine Cd.over rfl hK25 ?_
          refine Cd.plain [(0, false), (1, false), (2, false)] rfl rfl ?_
          refine Jp.y 34 rfl (want_all rfl) rfl rfl Kp.true (Y.move rfl rfl) ?_
          refine Jp.y 35 rfl (want_all rfl) rfl rfl Kp.true (Y.add_ rfl rfl rfl (by first | exact wrap_i64 (by omega) (by omega) | rfl)) ?_
          refine Jp.y 7 rfl (want_all rfl) rfl rfl Kp.true (Y.assign rfl rfl) ?_
          refine Jp.again hLa (k + 1, (m + 1), u2) ⟨by dsimp only; omega, hu2, hp2, by dsimp only; omega⟩ (by dsimp only; omega) rfl ⟨rfl, rfl, rfl, rfl, rfl, trivial⟩ ⟨rfl, trivial⟩
      · simp only [decide_eq_false_iff_not] at gc
        have hmx : xs[m]? = none := by simp; omega
        rw [show takeP ⟨xs, [], [], m, 0, 0⟩ xl[k] = (xl[k], ⟨xs, [], [], m, 0, 0⟩) by simp only [takeP, if_neg gb, hmx]] at hp2 ⊢
        refine Cd.skip hK32 ?_
        refine Cd.seq fun K40 hK40 => ?_
        refine Cd.plain [(0, false), (1, false), (2, false), (3, false), (4, false), (5, false), (6, false), (7, false), (8, false)] rfl rfl ?_
        refine Jp.y 70 rfl (want_all rfl) rfl rfl Kp.true (Y.move rfl rfl) ?_
        refine Jp.call [1] [1] (f19_spec b u2) 71 rfl (want_all rfl) rfl rfl (Runs.fn rfl Try.call19 rfl) (by decide) (by decide) rfl trivial ?_
        rintro v5 ρ5 L5 ⟨rfl, rfl, rfl⟩
        refine ⟨rfl, fun hle5 => ⟨Kp.true, ?_⟩⟩
        rw [show u2.shorts = m from congrArg UseP.shorts hp2]
        refine Jp.y 69 rfl (want_all rfl) rfl rfl Kp.true (Y.move rfl rfl) ?_
        refine Jp.y 72 rfl (want_all rfl) rfl rfl Kp.true (Y.extract rfl rfl rfl) ?_
        refine Jp.y 73 rfl (want_all rfl) rfl rfl Kp.true (Y.extract rfl rfl rfl) ?_
        refine Jp.y 74 rfl (want_all rfl) rfl rfl Kp.true (Y.extract rfl rfl rfl) ?_
        refine Jp.y 10 rfl (want_all rfl) rfl rfl Kp.true (Y.assign rfl rfl) ?_
        refine Jp.y 11 rfl (want_all rfl) rfl rfl Kp.true (Y.assign rfl rfl) ?_
        refine Jp.y 12 rfl (want_all rfl) rfl rfl Kp.true (Y.assign rfl rfl) ?_
        refine Jp.done hK40 ?_
        refine Cd.seq fun K41 hK41 => ?_
        refine Cd.plain [(0, false), (1, false), (2, false), (3, false), (4, false), (5, false), (6, false), (7, false)] rfl rfl ?_
        refine Jp.y 75 rfl (want_all rfl) rfl rfl Kp.true (Y.move rfl rfl) ?_
        refine Jp.y 76 rfl (want_all rfl) rfl rfl Kp.true (Y.move rfl rfl) ?_
        refine Jp.y 77 rfl (want_all rfl) rfl rfl Kp.true (Y.neq rfl rfl rfl) ?_
        refine Jp.y 78 rfl (want_all rfl) rfl rfl Kp.true (Y.move rfl rfl) ?_
        refine Jp.split 78 rfl (fun g78 => ?_) (fun g78 => ?_)
        · skip
          exact absurd g78 (by simp)
        try simp only [decide_eq_false_iff_not, decide_eq_true_eq, Int.not_lt, Int.not_le, Bool.not_eq_false, Bool.not_eq_true, Bool.not_true, Bool.not_false, Bool.not_eq_true', Bool.not_eq_false', beq_eq_false_iff_ne, ne_eq, beq_iff_eq, bne_iff_ne, bne_eq_false_iff_eq, Classical.not_not] at g78
        refine Jp.y 79 rfl (want_as rfl rfl rfl rfl) rfl rfl Kp.true (Y.move rfl rfl) ?_
        refine Jp.y 80 rfl (want_as rfl rfl rfl rfl) rfl rfl Kp.true (Y.move rfl rfl) ?_
        refine Jp.y 81 rfl (want_as rfl rfl rfl rfl) rfl rfl Kp.true (Y.neq rfl rfl rfl) ?_
        refine Jp.y 82 rfl (want_all rfl) rfl rfl Kp.true (Y.pickF rfl rfl rfl) ?_
        refine Jp.done hK41 ?_
        refine Cd.cond rfl (fun g82 => ?_) (fun g82 => ?_)
        · skip
          exact absurd g82 (by simp)
        try simp only [decide_eq_false_iff_not, decide_eq_true_eq, Int.not_lt, Int.not_le, Bool.not_eq_false, Bool.not_eq_true, Bool.not_true, Bool.not_false, Bool.not_eq_true', Bool.not_eq_false', beq_eq_false_iff_ne, ne_eq, beq_iff_eq, bne_iff_ne, bne_eq_false_iff_eq, Classical.not_not] at g82
        refine Cd.over rfl hK25 ?_
        refine Cd.plain [(0, false), (1, false), (2, false)] rfl rfl ?_
        refine Jp.y 34 rfl (want_all rfl) rfl rfl Kp.true (Y.move rfl rfl) ?_
        refine Jp.y 35 rfl (want_all rfl) rfl rfl Kp.true (Y.add_ rfl rfl rfl (by first | exact wrap_i64 (by omega) (by omega) | rfl)) ?_
        refine Jp.y 7 rfl (want_all rfl) rfl rfl Kp.true (Y.assign rfl rfl) ?_
        refine Jp.again hLa (k + 1, m, u2) ⟨by dsimp only; omega, hu2, hp2, by dsimp only; omega⟩ (by dsimp only; omega) rfl ⟨rfl, rfl, rfl, rfl, rfl, trivial⟩ ⟨rfl, trivial⟩
  · simp only [decide_eq_false_iff_not] at ga
    refine Cd.exit rfl hK21 ?_
    refine Cd.seq fun K42 hK42 => ?_
    refine Cd.plain [(0, false)] rfl rfl ?_
    refine Jp.y 4 rfl (want_all rfl) rfl rfl Kp.true (Y.assign rfl rfl) ?_
    refine Jp.done hK42 ?_
    refine Cd.ret [] rfl (res1 rfl rfl) trivial ⟨rfl, rfl⟩
end Go.Proofs.Ytjjhihlmoecmlaa
