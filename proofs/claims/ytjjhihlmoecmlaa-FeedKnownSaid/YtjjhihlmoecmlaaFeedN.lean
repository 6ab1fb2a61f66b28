/- Contracts: great; the reference's Take, Bytes, Time. -/
import Derived.Test.YtjjhihlmoecmlaaFeedJ
set_option linter.unusedVariables false
set_option linter.unusedSimpArgs false
set_option maxRecDepth 100000
namespace Go.Proofs.Ytjjhihlmoecmlaa
open Go
theorem f21_spec (f : FeedG) : Spec Try.prog 21 #[.agg f.cells.toArray] (RdFeed f) [] (fun ρ ρ' v L => ρ' = ρ ∧ (∃ g, v = .bool g ∧ (g = false → f.files.xs.length ≤ 10)) ∧ L = []) := by
  obtain ⟨⟨Aa, ca, xa⟩, ⟨Ai, ci, xi⟩, ⟨As, cs, xs⟩, ⟨Ar, cr, xr⟩, ⟨Ac, cc, xk⟩, ⟨Af, cf, xf⟩⟩ := f
  dsimp only [FeedG.cells, Sl.v]
  refine Spec.of 78 Try.func21 rfl Try.ntmps21 [(0, _)] rfl rfl ?_
  intro cx ρ hr h0
  have la : xa.length ≤ 281474976710656 := hr.args.2.1.2
  have lf : xf.length ≤ 281474976710656 := hr.files.1.2.1.2
  refine Cd.seq fun K1 hK1 => ?_
  refine Cd.plain [(0, false), (1, false)] rfl rfl ?_
  refine Jp.box 50 1 rfl (want_all rfl) rfl rfl rfl rfl fun b50 => ⟨Kp.true, ?_⟩
  refine Jp.y 2 rfl (want_all rfl) rfl rfl Kp.true (Y.assign rfl rfl) ?_
  refine Jp.done hK1 ?_
  refine Cd.seq fun K2 hK2 => ?_
  refine Cd.seq fun K3 hK3 => ?_
  refine Cd.plain [(0, false), (1, false), (2, false), (3, false), (4, false), (5, false), (6, false), (7, false), (8, false), (9, false), (10, false), (11, false), (12, false), (13, false), (14, false), (15, false), (16, false), (17, false), (18, false), (19, false), (20, false), (21, false), (22, false), (23, false), (24, false), (25, false), (26, false), (27, false), (28, false), (29, false), (30, false), (31, false), (32, false), (33, false)] rfl rfl ?_
  refine Jp.y 5 rfl (want_all rfl) rfl rfl Kp.true (by first | exact Y.fieldAddrP rfl rfl Try.underlying35 rfl Try.sizeOf25 (by decide) (show _ + 0 = _ from rfl) | exact Y.fieldAddr rfl rfl Try.underlying35 rfl Try.sizeOf25 (by decide)) ?_
  refine Jp.y 6 rfl (want_all rfl) rfl rfl Kp.true (by first | exact Y.loadO 50 rfl Try.isAgg25 rfl rfl rfl | exact Y.loadO 50 rfl Try.isAgg25 rfl rfl rfl) ?_
  refine Jp.y 7 rfl (want_all rfl) rfl rfl Kp.true (Y.lenslice rfl Try.underlying25 rfl) ?_
  refine Jp.y 8 rfl (want_all rfl) rfl rfl Kp.true (Y.gtr rfl rfl rfl) ?_
  refine Jp.y 9 rfl (want_all rfl) rfl rfl Kp.true (Y.move rfl rfl) ?_
  refine Jp.split 9 rfl (fun g9 => ?_) (fun g9 => ?_)
  · skip
    refine Jp.skip 10 rfl (want_as rfl rfl rfl rfl) rfl rfl Kp.true ?_
    refine Jp.skip 11 rfl (want_as rfl rfl rfl rfl) rfl rfl Kp.true ?_
    refine Jp.skip 12 rfl (want_as rfl rfl rfl rfl) rfl rfl Kp.true ?_
    refine Jp.skip 13 rfl (want_as rfl rfl rfl rfl) rfl rfl Kp.true ?_
    refine Jp.y 14 rfl (want_all rfl) rfl rfl Kp.true (Y.pickT rfl rfl rfl) ?_
    refine Jp.y 15 rfl (want_all rfl) rfl rfl Kp.true (Y.move rfl rfl) ?_
    refine Jp.skip 16 rfl (want_as rfl rfl rfl rfl) rfl rfl Kp.true ?_
    refine Jp.skip 17 rfl (want_as rfl rfl rfl rfl) rfl rfl Kp.true ?_
    refine Jp.skip 18 rfl (want_as rfl rfl rfl rfl) rfl rfl Kp.true ?_
    refine Jp.skip 19 rfl (want_as rfl rfl rfl rfl) rfl rfl Kp.true ?_
    refine Jp.y 20 rfl (want_all rfl) rfl rfl Kp.true (Y.pickT rfl rfl rfl) ?_
    refine Jp.y 21 rfl (want_all rfl) rfl rfl Kp.true (Y.move rfl rfl) ?_
    refine Jp.skip 22 rfl (want_as rfl rfl rfl rfl) rfl rfl Kp.true ?_
    refine Jp.skip 23 rfl (want_as rfl rfl rfl rfl) rfl rfl Kp.true ?_
    refine Jp.skip 24 rfl (want_as rfl rfl rfl rfl) rfl rfl Kp.true ?_
    refine Jp.skip 25 rfl (want_as rfl rfl rfl rfl) rfl rfl Kp.true ?_
    refine Jp.y 26 rfl (want_all rfl) rfl rfl Kp.true (Y.pickT rfl rfl rfl) ?_
    refine Jp.y 27 rfl (want_all rfl) rfl rfl Kp.true (Y.move rfl rfl) ?_
    refine Jp.skip 28 rfl (want_as rfl rfl rfl rfl) rfl rfl Kp.true ?_
    refine Jp.skip 29 rfl (want_as rfl rfl rfl rfl) rfl rfl Kp.true ?_
    refine Jp.skip 30 rfl (want_as rfl rfl rfl rfl) rfl rfl Kp.true ?_
    refine Jp.skip 31 rfl (want_as rfl rfl rfl rfl) rfl rfl Kp.true ?_
    refine Jp.y 32 rfl (want_all rfl) rfl rfl Kp.true (Y.pickT rfl rfl rfl) ?_
    refine Jp.y 33 rfl (want_all rfl) rfl rfl Kp.true (Y.move rfl rfl) ?_
    refine Jp.skip 34 rfl (want_as rfl rfl rfl rfl) rfl rfl Kp.true ?_
    refine Jp.skip 35 rfl (want_as rfl rfl rfl rfl) rfl rfl Kp.true ?_
    refine Jp.skip 36 rfl (want_as rfl rfl rfl rfl) rfl rfl Kp.true ?_
    refine Jp.skip 37 rfl (want_as rfl rfl rfl rfl) rfl rfl Kp.true ?_
    refine Jp.y 38 rfl (want_all rfl) rfl rfl Kp.true (Y.pickT rfl rfl rfl) ?_
    refine Jp.done hK3 ?_
    refine Cd.condT rfl ?_
    refine Cd.seq fun K4 hK4 => ?_
    refine Cd.plain [(0, false)] rfl rfl ?_
    refine Jp.y 2 rfl (want_all rfl) rfl rfl Kp.true (Y.assign rfl rfl) ?_
    refine Jp.done hK4 ?_
    refine Cd.ret [] rfl (res1 rfl rfl) trivial ⟨rfl, ⟨true, rfl, fun h => by cases h⟩, rfl⟩
  try simp only [decide_eq_false_iff_not, decide_eq_true_eq, Int.not_lt, Int.not_le, Bool.not_eq_false, Bool.not_eq_true, Bool.not_true, Bool.not_false, Bool.not_eq_true', Bool.not_eq_false', beq_eq_false_iff_ne, ne_eq, beq_iff_eq, bne_iff_ne, bne_eq_false_iff_eq, Classical.not_not] at g9
  refine Jp.y 10 rfl (want_as rfl rfl rfl rfl) rfl rfl Kp.true (by first | exact Y.fieldAddrP rfl rfl Try.underlying35 rfl Try.sizeOf26 (by decide) (show _ + 1 = _ from rfl) | exact Y.fieldAddr rfl rfl Try.underlying35 rfl Try.sizeOf26 (by decide)) ?_
  refine Jp.y 11 rfl (want_as rfl rfl rfl rfl) rfl rfl Kp.true (by first | exact Y.loadO 50 rfl Try.isAgg26 rfl rfl rfl | exact Y.loadO 50 rfl Try.isAgg26 rfl rfl rfl) ?_
  refine Jp.y 12 rfl (want_as rfl rfl rfl rfl) rfl rfl Kp.true (Y.lenslice rfl Try.underlying26 rfl) ?_
  refine Jp.y 13 rfl (want_as rfl rfl rfl rfl) rfl rfl Kp.true (Y.gtr rfl rfl rfl) ?_
  refine Jp.y 14 rfl (want_all rfl) rfl rfl Kp.true (Y.pickF rfl rfl rfl) ?_
  refine Jp.y 15 rfl (want_all rfl) rfl rfl Kp.true (Y.move rfl rfl) ?_
  refine Jp.split 15 rfl (fun g15 => ?_) (fun g15 => ?_)
  · skip
    refine Jp.skip 16 rfl (want_as rfl rfl rfl rfl) rfl rfl Kp.true ?_
    refine Jp.skip 17 rfl (want_as rfl rfl rfl rfl) rfl rfl Kp.true ?_
    refine Jp.skip 18 rfl (want_as rfl rfl rfl rfl) rfl rfl Kp.true ?_
    refine Jp.skip 19 rfl (want_as rfl rfl rfl rfl) rfl rfl Kp.true ?_
    refine Jp.y 20 rfl (want_all rfl) rfl rfl Kp.true (Y.pickT rfl rfl rfl) ?_
    refine Jp.y 21 rfl (want_all rfl) rfl rfl Kp.true (Y.move rfl rfl) ?_
    refine Jp.skip 22 rfl (want_as rfl rfl rfl rfl) rfl rfl Kp.true ?_
    refine Jp.skip 23 rfl (want_as rfl rfl rfl rfl) rfl rfl Kp.true ?_
    refine Jp.skip 24 rfl (want_as rfl rfl rfl rfl) rfl rfl Kp.true ?_
    refine Jp.skip 25 rfl (want_as rfl rfl rfl rfl) rfl rfl Kp.true ?_
    refine Jp.y 26 rfl (want_all rfl) rfl rfl Kp.true (Y.pickT rfl rfl rfl) ?_
    refine Jp.y 27 rfl (want_all rfl) rfl rfl Kp.true (Y.move rfl rfl) ?_
    refine Jp.skip 28 rfl (want_as rfl rfl rfl rfl) rfl rfl Kp.true ?_
    refine Jp.skip 29 rfl (want_as rfl rfl rfl rfl) rfl rfl Kp.true ?_
    refine Jp.skip 30 rfl (want_as rfl rfl rfl rfl) rfl rfl Kp.true ?_
    refine Jp.skip 31 rfl (want_as rfl rfl rfl rfl) rfl rfl Kp.true ?_
    refine Jp.y 32 rfl (want_all rfl) rfl rfl Kp.true (Y.pickT rfl rfl rfl) ?_
    refine Jp.y 33 rfl (want_all rfl) rfl rfl Kp.true (Y.move rfl rfl) ?_
    refine Jp.skip 34 rfl (want_as rfl rfl rfl rfl) rfl rfl Kp.true ?_
    refine Jp.skip 35 rfl (want_as rfl rfl rfl rfl) rfl rfl Kp.true ?_
    refine Jp.skip 36 rfl (want_as rfl rfl rfl rfl) rfl rfl Kp.true ?_
    refine Jp.skip 37 rfl (want_as rfl rfl rfl rfl) rfl rfl Kp.true ?_
    refine Jp.y 38 rfl (want_all rfl) rfl rfl Kp.true (Y.pickT rfl rfl rfl) ?_
    refine Jp.done hK3 ?_
    refine Cd.condT rfl ?_
    refine Cd.seq fun K5 hK5 => ?_
    refine Cd.plain [(0, false)] rfl rfl ?_
    refine Jp.y 2 rfl (want_all rfl) rfl rfl Kp.true (Y.assign rfl rfl) ?_
    refine Jp.done hK5 ?_
    refine Cd.ret [] rfl (res1 rfl rfl) trivial ⟨rfl, ⟨true, rfl, fun h => by cases h⟩, rfl⟩
  try simp only [decide_eq_false_iff_not, decide_eq_true_eq, Int.not_lt, Int.not_le, Bool.not_eq_false, Bool.not_eq_true, Bool.not_true, Bool.not_false, Bool.not_eq_true', Bool.not_eq_false', beq_eq_false_iff_ne, ne_eq, beq_iff_eq, bne_iff_ne, bne_eq_false_iff_eq, Classical.not_not] at g15
  refine Jp.y 16 rfl (want_as rfl rfl rfl rfl) rfl rfl Kp.true (by first | exact Y.fieldAddrP rfl rfl Try.underlying35 rfl Try.sizeOf22 (by decide) (show _ + 2 = _ from rfl) | exact Y.fieldAddr rfl rfl Try.underlying35 rfl Try.sizeOf22 (by decide)) ?_
  refine Jp.y 17 rfl (want_as rfl rfl rfl rfl) rfl rfl Kp.true (by first | exact Y.loadO 50 rfl Try.isAgg22 rfl rfl rfl | exact Y.loadO 50 rfl Try.isAgg22 rfl rfl rfl) ?_
  refine Jp.y 18 rfl (want_as rfl rfl rfl rfl) rfl rfl Kp.true (Y.lenslice rfl Try.underlying22 rfl) ?_
  refine Jp.y 19 rfl (want_as rfl rfl rfl rfl) rfl rfl Kp.true (Y.gtr rfl rfl rfl) ?_
  refine Jp.y 20 rfl (want_all rfl) rfl rfl Kp.true (Y.pickF rfl rfl rfl) ?_
  refine Jp.y 21 rfl (want_all rfl) rfl rfl Kp.true (Y.move rfl rfl) ?_
  refine Jp.split 21 rfl (fun g21 => ?_) (fun g21 => ?_)
  · skip
    refine Jp.skip 22 rfl (want_as rfl rfl rfl rfl) rfl rfl Kp.true ?_
    refine Jp.skip 23 rfl (want_as rfl rfl rfl rfl) rfl rfl Kp.true ?_
    refine Jp.skip 24 rfl (want_as rfl rfl rfl rfl) rfl rfl Kp.true ?_
    refine Jp.skip 25 rfl (want_as rfl rfl rfl rfl) rfl rfl Kp.true ?_
    refine Jp.y 26 rfl (want_all rfl) rfl rfl Kp.true (Y.pickT rfl rfl rfl) ?_
    refine Jp.y 27 rfl (want_all rfl) rfl rfl Kp.true (Y.move rfl rfl) ?_
    refine Jp.skip 28 rfl (want_as rfl rfl rfl rfl) rfl rfl Kp.true ?_
    refine Jp.skip 29 rfl (want_as rfl rfl rfl rfl) rfl rfl Kp.true ?_
    refine Jp.skip 30 rfl (want_as rfl rfl rfl rfl) rfl rfl Kp.true ?_
    refine Jp.skip 31 rfl (want_as rfl rfl rfl rfl) rfl rfl Kp.true ?_
    refine Jp.y 32 rfl (want_all rfl) rfl rfl Kp.true (Y.pickT rfl rfl rfl) ?_
    refine Jp.y 33 rfl (want_all rfl) rfl rfl Kp.true (Y.move rfl rfl) ?_
    refine Jp.skip 34 rfl (want_as rfl rfl rfl rfl) rfl rfl Kp.true ?_
    refine Jp.skip 35 rfl (want_as rfl rfl rfl rfl) rfl rfl Kp.true ?_
    refine Jp.skip 36 rfl (want_as rfl rfl rfl rfl) rfl rfl Kp.true ?_
    refine Jp.skip 37 rfl (want_as rfl rfl rfl rfl) rfl rfl Kp.true ?_
    refine Jp.y 38 rfl (want_all rfl) rfl rfl Kp.true (Y.pickT rfl rfl rfl) ?_
    refine Jp.done hK3 ?_
    refine Cd.condT rfl ?_
    refine Cd.seq fun K6 hK6 => ?_
    refine Cd.plain [(0, false)] rfl rfl ?_
    refine Jp.y 2 rfl (want_all rfl) rfl rfl Kp.true (Y.assign rfl rfl) ?_
    refine Jp.done hK6 ?_
    refine Cd.ret [] rfl (res1 rfl rfl) trivial ⟨rfl, ⟨true, rfl, fun h => by cases h⟩, rfl⟩
  try simp only [decide_eq_false_iff_not, decide_eq_true_eq, Int.not_lt, Int.not_le, Bool.not_eq_false, Bool.not_eq_true, Bool.not_true, Bool.not_false, Bool.not_eq_true', Bool.not_eq_false', beq_eq_false_iff_ne, ne_eq, beq_iff_eq, bne_iff_ne, bne_eq_false_iff_eq, Classical.not_not] at g21
  refine Jp.y 22 rfl (want_as rfl rfl rfl rfl) rfl rfl Kp.true (by first | exact Y.fieldAddrP rfl rfl Try.underlying35 rfl Try.sizeOf26 (by decide) (show _ + 3 = _ from rfl) | exact Y.fieldAddr rfl rfl Try.underlying35 rfl Try.sizeOf26 (by decide)) ?_
  refine Jp.y 23 rfl (want_as rfl rfl rfl rfl) rfl rfl Kp.true (by first | exact Y.loadO 50 rfl Try.isAgg26 rfl rfl rfl | exact Y.loadO 50 rfl Try.isAgg26 rfl rfl rfl) ?_
  refine Jp.y 24 rfl (want_as rfl rfl rfl rfl) rfl rfl Kp.true (Y.lenslice rfl Try.underlying26 rfl) ?_
  refine Jp.y 25 rfl (want_as rfl rfl rfl rfl) rfl rfl Kp.true (Y.gtr rfl rfl rfl) ?_
  refine Jp.y 26 rfl (want_all rfl) rfl rfl Kp.true (Y.pickF rfl rfl rfl) ?_
  refine Jp.y 27 rfl (want_all rfl) rfl rfl Kp.true (Y.move rfl rfl) ?_
  refine Jp.split 27 rfl (fun g27 => ?_) (fun g27 => ?_)
  · skip
    refine Jp.skip 28 rfl (want_as rfl rfl rfl rfl) rfl rfl Kp.true ?_
    refine Jp.skip 29 rfl (want_as rfl rfl rfl rfl) rfl rfl Kp.true ?_
    refine Jp.skip 30 rfl (want_as rfl rfl rfl rfl) rfl rfl Kp.true ?_
    refine Jp.skip 31 rfl (want_as rfl rfl rfl rfl) rfl rfl Kp.true ?_
    refine Jp.y 32 rfl (want_all rfl) rfl rfl Kp.true (Y.pickT rfl rfl rfl) ?_
    refine Jp.y 33 rfl (want_all rfl) rfl rfl Kp.true (Y.move rfl rfl) ?_
    refine Jp.skip 34 rfl (want_as rfl rfl rfl rfl) rfl rfl Kp.true ?_
    refine Jp.skip 35 rfl (want_as rfl rfl rfl rfl) rfl rfl Kp.true ?_
    refine Jp.skip 36 rfl (want_as rfl rfl rfl rfl) rfl rfl Kp.true ?_
    refine Jp.skip 37 rfl (want_as rfl rfl rfl rfl) rfl rfl Kp.true ?_
    refine Jp.y 38 rfl (want_all rfl) rfl rfl Kp.true (Y.pickT rfl rfl rfl) ?_
    refine Jp.done hK3 ?_
    refine Cd.condT rfl ?_
    refine Cd.seq fun K7 hK7 => ?_
    refine Cd.plain [(0, false)] rfl rfl ?_
    refine Jp.y 2 rfl (want_all rfl) rfl rfl Kp.true (Y.assign rfl rfl) ?_
    refine Jp.done hK7 ?_
    refine Cd.ret [] rfl (res1 rfl rfl) trivial ⟨rfl, ⟨true, rfl, fun h => by cases h⟩, rfl⟩
  try simp only [decide_eq_false_iff_not, decide_eq_true_eq, Int.not_lt, Int.not_le, Bool.not_eq_false, Bool.not_eq_true, Bool.not_true, Bool.not_false, Bool.not_eq_true', Bool.not_eq_false', beq_eq_false_iff_ne, ne_eq, beq_iff_eq, bne_iff_ne, bne_eq_false_iff_eq, Classical.not_not] at g27
  refine Jp.y 28 rfl (want_as rfl rfl rfl rfl) rfl rfl Kp.true (by first | exact Y.fieldAddrP rfl rfl Try.underlying35 rfl Try.sizeOf27 (by decide) (show _ + 4 = _ from rfl) | exact Y.fieldAddr rfl rfl Try.underlying35 rfl Try.sizeOf27 (by decide)) ?_
  refine Jp.y 29 rfl (want_as rfl rfl rfl rfl) rfl rfl Kp.true (by first | exact Y.loadO 50 rfl Try.isAgg27 rfl rfl rfl | exact Y.loadO 50 rfl Try.isAgg27 rfl rfl rfl) ?_
  refine Jp.y 30 rfl (want_as rfl rfl rfl rfl) rfl rfl Kp.true (Y.lenslice rfl Try.underlying27 rfl) ?_
  refine Jp.y 31 rfl (want_as rfl rfl rfl rfl) rfl rfl Kp.true (Y.gtr rfl rfl rfl) ?_
  refine Jp.y 32 rfl (want_all rfl) rfl rfl Kp.true (Y.pickF rfl rfl rfl) ?_
  refine Jp.y 33 rfl (want_all rfl) rfl rfl Kp.true (Y.move rfl rfl) ?_
  refine Jp.split 33 rfl (fun g33 => ?_) (fun g33 => ?_)
  · skip
    refine Jp.skip 34 rfl (want_as rfl rfl rfl rfl) rfl rfl Kp.true ?_
    refine Jp.skip 35 rfl (want_as rfl rfl rfl rfl) rfl rfl Kp.true ?_
    refine Jp.skip 36 rfl (want_as rfl rfl rfl rfl) rfl rfl Kp.true ?_
    refine Jp.skip 37 rfl (want_as rfl rfl rfl rfl) rfl rfl Kp.true ?_
    refine Jp.y 38 rfl (want_all rfl) rfl rfl Kp.true (Y.pickT rfl rfl rfl) ?_
    refine Jp.done hK3 ?_
    refine Cd.condT rfl ?_
    refine Cd.seq fun K8 hK8 => ?_
    refine Cd.plain [(0, false)] rfl rfl ?_
    refine Jp.y 2 rfl (want_all rfl) rfl rfl Kp.true (Y.assign rfl rfl) ?_
    refine Jp.done hK8 ?_
    refine Cd.ret [] rfl (res1 rfl rfl) trivial ⟨rfl, ⟨true, rfl, fun h => by cases h⟩, rfl⟩
  try simp only [decide_eq_false_iff_not, decide_eq_true_eq, Int.not_lt, Int.not_le, Bool.not_eq_false, Bool.not_eq_true, Bool.not_true, Bool.not_false, Bool.not_eq_true', Bool.not_eq_false', beq_eq_false_iff_ne, ne_eq, beq_iff_eq, bne_iff_ne, bne_eq_false_iff_eq, Classical.not_not] at g33
  refine Jp.y 34 rfl (want_as rfl rfl rfl rfl) rfl rfl Kp.true (by first | exact Y.fieldAddrP rfl rfl Try.underlying35 rfl Try.sizeOf33 (by decide) (show _ + 5 = _ from rfl) | exact Y.fieldAddr rfl rfl Try.underlying35 rfl Try.sizeOf33 (by decide)) ?_
  refine Jp.y 35 rfl (want_as rfl rfl rfl rfl) rfl rfl Kp.true (by first | exact Y.loadO 50 rfl Try.isAgg33 rfl rfl rfl | exact Y.loadO 50 rfl Try.isAgg33 rfl rfl rfl) ?_
  refine Jp.y 36 rfl (want_as rfl rfl rfl rfl) rfl rfl Kp.true (Y.lenslice rfl Try.underlying33 rfl) ?_
  refine Jp.y 37 rfl (want_as rfl rfl rfl rfl) rfl rfl Kp.true (Y.gtr rfl rfl rfl) ?_
  refine Jp.y 38 rfl (want_all rfl) rfl rfl Kp.true (Y.pickF rfl rfl rfl) ?_
  refine Jp.done hK3 ?_
  refine Cd.cond rfl (fun g38 => ?_) (fun g38 => ?_)
  · skip
    refine Cd.seq fun K9 hK9 => ?_
    refine Cd.plain [(0, false)] rfl rfl ?_
    refine Jp.y 2 rfl (want_all rfl) rfl rfl Kp.true (Y.assign rfl rfl) ?_
    refine Jp.done hK9 ?_
    refine Cd.ret [] rfl (res1 rfl rfl) trivial ⟨rfl, ⟨true, rfl, fun h => by cases h⟩, rfl⟩
  try simp only [decide_eq_false_iff_not, decide_eq_true_eq, Int.not_lt, Int.not_le, Bool.not_eq_false, Bool.not_eq_true, Bool.not_true, Bool.not_false, Bool.not_eq_true', Bool.not_eq_false', beq_eq_false_iff_ne, ne_eq, beq_iff_eq, bne_iff_ne, bne_eq_false_iff_eq, Classical.not_not] at g38
  refine Cd.skip hK2 ?_
  refine Cd.seq fun K10 hK10 => ?_
  refine Cd.seq fun K11 hK11 => ?_
  refine Cd.plain [(0, false)] rfl rfl ?_
  refine Jp.y 3 rfl (want_all rfl) rfl rfl Kp.true (Y.assign rfl rfl) ?_
  refine Jp.done hK11 ?_
  refine Cd.block ?_
  refine Cd.loop (G := Nat) (fun k => k ≤ xa.length) (fun k => xa.length - k) (fun _ => ρ) (fun k => [(1, .pointer (some ⟨b50, 0, none⟩)), (3, .int .i64 k)]) (fun _ => [(50, Pt b50 (.cells #[.slice Aa xa.length ca, .slice Ai xi.length ci, .slice As xs.length cs, .slice Ar xr.length cr, .slice Ac xk.length cc, .slice Af xf.length cf] 35))]) 0 (Nat.zero_le _) rfl ⟨rfl, rfl, trivial⟩ ⟨rfl, trivial⟩ (fun g KLa hok hLa => ?_)
  refine Cd.seq fun K12 hK12 => ?_
  refine Cd.seq fun K13 hK13 => ?_
  refine Cd.plain [(0, false), (1, false), (2, false), (3, false), (4, false)] rfl rfl ?_
  refine Jp.y 39 rfl (want_all rfl) rfl rfl Kp.true (Y.move rfl rfl) ?_
  refine Jp.y 40 rfl (want_all rfl) rfl rfl Kp.true (by first | exact Y.fieldAddrP rfl rfl Try.underlying35 rfl Try.sizeOf25 (by decide) (show _ + 0 = _ from rfl) | exact Y.fieldAddr rfl rfl Try.underlying35 rfl Try.sizeOf25 (by decide)) ?_
  refine Jp.y 41 rfl (want_all rfl) rfl rfl Kp.true (by first | exact Y.loadO 50 rfl Try.isAgg25 rfl rfl rfl | exact Y.loadO 50 rfl Try.isAgg25 rfl rfl rfl) ?_
  refine Jp.y 42 rfl (want_all rfl) rfl rfl Kp.true (Y.lenslice rfl Try.underlying25 rfl) ?_
  refine Jp.y 43 rfl (want_all rfl) rfl rfl Kp.true (Y.lss rfl rfl rfl) ?_
  refine Jp.done hK13 ?_
  refine Cd.cond rfl (fun ga => ?_) (fun ga => ?_)
  · simp only [decide_eq_true_eq] at ga
    have hg : g < xa.length := by omega
    obtain ⟨ad, rfl⟩ := hr.args.some (show 0 < xa.length * 1 by omega)
    have hcell : cellH ρ (ad.add g) = some (.string xa[g]) := hr.args.cell (by simp [strsV, hg])
    refine Cd.skip hK12 ?_
    refine Cd.seq fun K14 hK14 => ?_
    refine Cd.block ?_
    refine Cd.seq fun K15 hK15 => ?_
    refine Cd.plain [(0, false), (1, false), (2, false), (3, false), (4, false), (5, false), (6, false)] rfl rfl ?_
    refine Jp.y 46 rfl (want_all rfl) rfl rfl Kp.true (by first | exact Y.fieldAddrP rfl rfl Try.underlying35 rfl Try.sizeOf25 (by decide) (show _ + 0 = _ from rfl) | exact Y.fieldAddr rfl rfl Try.underlying35 rfl Try.sizeOf25 (by decide)) ?_
    refine Jp.y 47 rfl (want_all rfl) rfl rfl Kp.true (by first | exact Y.loadO 50 rfl Try.isAgg25 rfl rfl rfl | exact Y.loadO 50 rfl Try.isAgg25 rfl rfl rfl | exact Y.loadR rfl Try.isAgg25 rfl hcell) ?_
    refine Jp.y 48 rfl (want_all rfl) rfl rfl Kp.true (Y.move rfl rfl) ?_
    refine Jp.y 49 rfl (want_all rfl) rfl rfl Kp.true (Y.indexAddr (q := g) rfl rfl rfl Try.underlying25 Try.sizeOf9 (by omega) (by omega) (by omega)) ?_
    refine Jp.y 50 rfl (want_all rfl) rfl rfl Kp.true (by first | exact Y.loadO 50 rfl Try.isAgg9 rfl rfl rfl | exact Y.loadO 50 rfl Try.isAgg9 rfl rfl rfl | exact Y.loadR rfl Try.isAgg9 rfl hcell) ?_
    refine Jp.y 51 rfl (want_all rfl) rfl rfl Kp.true (Y.lenstr rfl Try.underlying9 rfl) ?_
    refine Jp.y 52 rfl (want_all rfl) rfl rfl Kp.true (Y.gtr rfl rfl rfl) ?_
    refine Jp.done hK15 ?_
    refine Cd.cond rfl (fun g52 => ?_) (fun g52 => ?_)
    · skip
      refine Cd.seq fun K16 hK16 => ?_
      refine Cd.plain [(0, false)] rfl rfl ?_
      refine Jp.y 2 rfl (want_all rfl) rfl rfl Kp.true (Y.assign rfl rfl) ?_
      refine Jp.done hK16 ?_
      refine Cd.ret [] rfl (res1 rfl rfl) trivial ⟨rfl, ⟨true, rfl, fun h => by cases h⟩, rfl⟩
    try simp only [decide_eq_false_iff_not, decide_eq_true_eq, Int.not_lt, Int.not_le, Bool.not_eq_false, Bool.not_eq_true, Bool.not_true, Bool.not_false, Bool.not_eq_true', Bool.not_eq_false', beq_eq_false_iff_ne, ne_eq, beq_iff_eq, bne_iff_ne, bne_eq_false_iff_eq, Classical.not_not] at g52
    refine Cd.over rfl hK14 ?_
    refine Cd.plain [(0, false), (1, false), (2, false)] rfl rfl ?_
    refine Jp.y 44 rfl (want_all rfl) rfl rfl Kp.true (Y.move rfl rfl) ?_
    refine Jp.y 45 rfl (want_all rfl) rfl rfl Kp.true (Y.add_ rfl rfl rfl (by first | exact wrap_i64 (by omega) (by omega) | rfl)) ?_
    refine Jp.y 3 rfl (want_all rfl) rfl rfl Kp.true (Y.assign rfl rfl) ?_
    refine Jp.again hLa (g + 1) (by omega) (by omega) rfl ⟨rfl, rfl, trivial⟩ ⟨rfl, trivial⟩
  · skip
    refine Cd.exit rfl hK10 ?_
    refine Cd.seq fun K17 hK17 => ?_
    refine Cd.seq fun K18 hK18 => ?_
    refine Cd.plain [(0, false)] rfl rfl ?_
    refine Jp.y 4 rfl (want_all rfl) rfl rfl Kp.true (Y.assign rfl rfl) ?_
    refine Jp.done hK18 ?_
    refine Cd.block ?_
    refine Cd.loop (G := Nat) (fun k => k ≤ xf.length) (fun k => xf.length - k) (fun _ => ρ) (fun k => [(1, .pointer (some ⟨b50, 0, none⟩)), (4, .int .i64 k)]) (fun _ => [(50, Pt b50 (.cells #[.slice Aa xa.length ca, .slice Ai xi.length ci, .slice As xs.length cs, .slice Ar xr.length cr, .slice Ac xk.length cc, .slice Af xf.length cf] 35))]) 0 (Nat.zero_le _) rfl ⟨rfl, rfl, trivial⟩ ⟨rfl, trivial⟩ (fun g KLf hok hLf => ?_)
    refine Cd.seq fun K19 hK19 => ?_
    refine Cd.seq fun K20 hK20 => ?_
    refine Cd.plain [(0, false), (1, false), (2, false), (3, false), (4, false)] rfl rfl ?_
    refine Jp.y 53 rfl (want_all rfl) rfl rfl Kp.true (Y.move rfl rfl) ?_
    refine Jp.y 54 rfl (want_all rfl) rfl rfl Kp.true (by first | exact Y.fieldAddrP rfl rfl Try.underlying35 rfl Try.sizeOf33 (by decide) (show _ + 5 = _ from rfl) | exact Y.fieldAddr rfl rfl Try.underlying35 rfl Try.sizeOf33 (by decide)) ?_
    refine Jp.y 55 rfl (want_all rfl) rfl rfl Kp.true (by first | exact Y.loadO 50 rfl Try.isAgg33 rfl rfl rfl | exact Y.loadO 50 rfl Try.isAgg33 rfl rfl rfl | exact Y.loadR rfl Try.isAgg33 rfl hcell) ?_
    refine Jp.y 56 rfl (want_all rfl) rfl rfl Kp.true (Y.lenslice rfl Try.underlying33 rfl) ?_
    refine Jp.y 57 rfl (want_all rfl) rfl rfl Kp.true (Y.lss rfl rfl rfl) ?_
    refine Jp.done hK20 ?_
    refine Cd.cond rfl (fun gb => ?_) (fun gb => ?_)
    · simp only [decide_eq_true_eq] at gb
      have hg : g < xf.length := by omega
      obtain ⟨ad, rfl⟩ := hr.files.1.some (show 0 < xf.length * 2 by omega)
      have hc0 : cellH ρ ((ad.add (g * 2)).add 0) = some (.string xf[g].name) := hr.files.at rfl (by simp [hg]) 0 _ rfl
      have hc1 : cellH ρ ((ad.add (g * 2)).add 1) = some xf[g].data.v := hr.files.at rfl (show xf[g]? = some xf[g] by simp [hg]) 1 _ rfl
      dsimp only [Sl.v] at hc1
      refine Cd.skip hK19 ?_
      refine Cd.seq fun K21 hK21 => ?_
      refine Cd.block ?_
      refine Cd.seq fun K22 hK22 => ?_
      refine Cd.plain [(0, false), (1, false), (2, false), (3, false), (4, false), (5, false), (6, false), (7, false), (8, false), (9, false), (10, false), (11, false), (12, false), (13, false), (14, false), (15, false), (16, false), (17, false)] rfl rfl ?_
      refine Jp.y 60 rfl (want_all rfl) rfl rfl Kp.true (by first | exact Y.fieldAddrP rfl rfl Try.underlying35 rfl Try.sizeOf33 (by decide) (show _ + 5 = _ from rfl) | exact Y.fieldAddr rfl rfl Try.underlying35 rfl Try.sizeOf33 (by decide)) ?_
      refine Jp.y 61 rfl (want_all rfl) rfl rfl Kp.true (by first | exact Y.loadO 50 rfl Try.isAgg33 rfl rfl rfl | exact Y.loadO 50 rfl Try.isAgg33 rfl rfl rfl | exact Y.loadR rfl Try.isAgg33 rfl hc0 | exact Y.loadR rfl Try.isAgg33 rfl hc1) ?_
      refine Jp.y 62 rfl (want_all rfl) rfl rfl Kp.true (Y.move rfl rfl) ?_
      refine Jp.y 63 rfl (want_all rfl) rfl rfl Kp.true (Y.indexAddr (q := g * 2) rfl rfl rfl Try.underlying33 Try.sizeOf63 (by omega) (by omega) (by omega)) ?_
      refine Jp.y 64 rfl (want_all rfl) rfl rfl Kp.true (by first | exact Y.fieldAddrP rfl rfl Try.underlying63 rfl Try.sizeOf9 (by decide) (show _ + 0 = _ from rfl) | exact Y.fieldAddr rfl rfl Try.underlying63 rfl Try.sizeOf9 (by decide)) ?_
      refine Jp.y 65 rfl (want_all rfl) rfl rfl Kp.true (by first | exact Y.loadO 50 rfl Try.isAgg9 rfl rfl rfl | exact Y.loadO 50 rfl Try.isAgg9 rfl rfl rfl | exact Y.loadR rfl Try.isAgg9 rfl hc0 | exact Y.loadR rfl Try.isAgg9 rfl hc1) ?_
      refine Jp.y 66 rfl (want_all rfl) rfl rfl Kp.true (Y.lenstr rfl Try.underlying9 rfl) ?_
      refine Jp.y 67 rfl (want_all rfl) rfl rfl Kp.true (Y.gtr rfl rfl rfl) ?_
      refine Jp.y 68 rfl (want_all rfl) rfl rfl Kp.true (Y.move rfl rfl) ?_
      refine Jp.split 68 rfl (fun g68 => ?_) (fun g68 => ?_)
      · skip
        refine Jp.skip 69 rfl (want_as rfl rfl rfl rfl) rfl rfl Kp.true ?_
        refine Jp.skip 70 rfl (want_as rfl rfl rfl rfl) rfl rfl Kp.true ?_
        refine Jp.skip 71 rfl (want_as rfl rfl rfl rfl) rfl rfl Kp.true ?_
        refine Jp.skip 72 rfl (want_as rfl rfl rfl rfl) rfl rfl Kp.true ?_
        refine Jp.skip 73 rfl (want_as rfl rfl rfl rfl) rfl rfl Kp.true ?_
        refine Jp.skip 74 rfl (want_as rfl rfl rfl rfl) rfl rfl Kp.true ?_
        refine Jp.skip 75 rfl (want_as rfl rfl rfl rfl) rfl rfl Kp.true ?_
        refine Jp.skip 76 rfl (want_as rfl rfl rfl rfl) rfl rfl Kp.true ?_
        refine Jp.y 77 rfl (want_all rfl) rfl rfl Kp.true (Y.pickT rfl rfl rfl) ?_
        refine Jp.done hK22 ?_
        refine Cd.condT rfl ?_
        refine Cd.seq fun K23 hK23 => ?_
        refine Cd.plain [(0, false)] rfl rfl ?_
        refine Jp.y 2 rfl (want_all rfl) rfl rfl Kp.true (Y.assign rfl rfl) ?_
        refine Jp.done hK23 ?_
        refine Cd.ret [] rfl (res1 rfl rfl) trivial ⟨rfl, ⟨true, rfl, fun h => by cases h⟩, rfl⟩
      try simp only [decide_eq_false_iff_not, decide_eq_true_eq, Int.not_lt, Int.not_le, Bool.not_eq_false, Bool.not_eq_true, Bool.not_true, Bool.not_false, Bool.not_eq_true', Bool.not_eq_false', beq_eq_false_iff_ne, ne_eq, beq_iff_eq, bne_iff_ne, bne_eq_false_iff_eq, Classical.not_not] at g68
      refine Jp.y 69 rfl (want_as rfl rfl rfl rfl) rfl rfl Kp.true (by first | exact Y.fieldAddrP rfl rfl Try.underlying35 rfl Try.sizeOf33 (by decide) (show _ + 5 = _ from rfl) | exact Y.fieldAddr rfl rfl Try.underlying35 rfl Try.sizeOf33 (by decide)) ?_
      refine Jp.y 70 rfl (want_as rfl rfl rfl rfl) rfl rfl Kp.true (by first | exact Y.loadO 50 rfl Try.isAgg33 rfl rfl rfl | exact Y.loadO 50 rfl Try.isAgg33 rfl rfl rfl | exact Y.loadR rfl Try.isAgg33 rfl hc0 | exact Y.loadR rfl Try.isAgg33 rfl hc1) ?_
      refine Jp.y 71 rfl (want_as rfl rfl rfl rfl) rfl rfl Kp.true (Y.move rfl rfl) ?_
      refine Jp.y 72 rfl (want_as rfl rfl rfl rfl) rfl rfl Kp.true (Y.indexAddr (q := g * 2) rfl rfl rfl Try.underlying33 Try.sizeOf63 (by omega) (by omega) (by omega)) ?_
      refine Jp.y 73 rfl (want_as rfl rfl rfl rfl) rfl rfl Kp.true (by first | exact Y.fieldAddrP rfl rfl Try.underlying63 rfl Try.sizeOf26 (by decide) (show _ + 1 = _ from rfl) | exact Y.fieldAddr rfl rfl Try.underlying63 rfl Try.sizeOf26 (by decide)) ?_
      refine Jp.y 74 rfl (want_as rfl rfl rfl rfl) rfl rfl Kp.true (by first | exact Y.loadO 50 rfl Try.isAgg26 rfl rfl rfl | exact Y.loadO 50 rfl Try.isAgg26 rfl rfl rfl | exact Y.loadR rfl Try.isAgg26 rfl hc0 | exact Y.loadR rfl Try.isAgg26 rfl hc1) ?_
      refine Jp.y 75 rfl (want_as rfl rfl rfl rfl) rfl rfl Kp.true (Y.lenslice rfl Try.underlying26 rfl) ?_
      refine Jp.y 76 rfl (want_as rfl rfl rfl rfl) rfl rfl Kp.true (Y.gtr rfl rfl rfl) ?_
      refine Jp.y 77 rfl (want_all rfl) rfl rfl Kp.true (Y.pickF rfl rfl rfl) ?_
      refine Jp.done hK22 ?_
      refine Cd.cond rfl (fun g77 => ?_) (fun g77 => ?_)
      · skip
        refine Cd.seq fun K24 hK24 => ?_
        refine Cd.plain [(0, false)] rfl rfl ?_
        refine Jp.y 2 rfl (want_all rfl) rfl rfl Kp.true (Y.assign rfl rfl) ?_
        refine Jp.done hK24 ?_
        refine Cd.ret [] rfl (res1 rfl rfl) trivial ⟨rfl, ⟨true, rfl, fun h => by cases h⟩, rfl⟩
      try simp only [decide_eq_false_iff_not, decide_eq_true_eq, Int.not_lt, Int.not_le, Bool.not_eq_false, Bool.not_eq_true, Bool.not_true, Bool.not_false, Bool.not_eq_true', Bool.not_eq_false', beq_eq_false_iff_ne, ne_eq, beq_iff_eq, bne_iff_ne, bne_eq_false_iff_eq, Classical.not_not] at g77
      refine Cd.over rfl hK21 ?_
      refine Cd.plain [(0, false), (1, false), (2, false)] rfl rfl ?_
      refine Jp.y 58 rfl (want_all rfl) rfl rfl Kp.true (Y.move rfl rfl) ?_
      refine Jp.y 59 rfl (want_all rfl) rfl rfl Kp.true (Y.add_ rfl rfl rfl (by first | exact wrap_i64 (by omega) (by omega) | rfl)) ?_
      refine Jp.y 4 rfl (want_all rfl) rfl rfl Kp.true (Y.assign rfl rfl) ?_
      refine Jp.again hLf (g + 1) (by omega) (by omega) rfl ⟨rfl, rfl, trivial⟩ ⟨rfl, trivial⟩
    · skip
      refine Cd.exit rfl hK17 ?_
      refine Cd.seq fun K25 hK25 => ?_
      refine Cd.plain [(0, false)] rfl rfl ?_
      refine Jp.y 2 rfl (want_all rfl) rfl rfl Kp.true (Y.assign rfl rfl) ?_
      refine Jp.done hK25 ?_
      refine Cd.ret [] rfl (res1 rfl rfl) trivial ⟨rfl, ⟨false, rfl, fun _ => by show xf.length ≤ 10; omega⟩, rfl⟩
/-- A use of the reference: the feed whole, how far it is used. -/
structure RefG where
  f : FeedG
  shorts : Nat
  bytes : Nat
  clocks : Nat
def RefG.p (u : RefG) : UseP := ⟨u.f.short.xs, u.f.random.xs, u.f.clock.xs, u.shorts, u.bytes, u.clocks⟩
def RefG.cells (u : RefG) : List Value := [u.f.args.v, u.f.input.v, u.f.short.v, u.f.random.v, u.f.clock.v, u.f.files.v, .int .i64 u.shorts, .int .i64 u.bytes, .int .i64 u.clocks]
structure RdRef (u : RefG) (h : Hp) : Prop where
  short : RdI .i64 u.f.short h
  random : RdB u.f.random h
  clock : RdI .u32 u.f.clock h
  l1 : u.shorts ≤ u.f.short.xs.length
  l2 : u.bytes ≤ u.f.random.xs.length
  l3 : u.clocks ≤ u.f.clock.xs.length
  n1 : u.f.short.xs.length ≤ 4096
  n2 : u.f.random.xs.length ≤ 4096
  n3 : u.f.clock.xs.length ≤ 4096
theorem RdRef.up (u : RefG) : Up (RdRef u) := fun h k l r => { r with short := RdI.up _ _ h k l r.short, random := RdB.up _ h k l r.random, clock := RdI.up _ _ h k l r.clock }
def RefPt (b : Nat) (u : RefG) : HProp := Pt b (.cells u.cells.toArray 53)
def RefEnd (b : Nat) (q : UseP) (ρ : Hp) (A : HProp) : Prop := ∃ u, A = RefPt b u ∧ RdRef u ρ ∧ u.p = q
theorem f24_spec (b : Nat) (u : RefG) (n : Int) : Spec Try.prog 24 #[.pointer (some ⟨b, 0, none⟩), .int .i64 n] (RdRef u) [(0, RefPt b u)]
    (fun ρ ρ' v L => ρ' = ρ ∧ v = .int .i64 (takeP u.p n).1 ∧ ∃ A, L = [(0, A)] ∧ RefEnd b (takeP u.p n).2 ρ A) := by
  obtain ⟨⟨args, input, ⟨As, cs, xs⟩, random, clock, files⟩, k, kb, kc⟩ := u
  dsimp only [RefPt, RefG.cells, Sl.v]
  refine Spec.of 53 Try.func24 rfl Try.ntmps24 [(0, _), (1, _)] rfl rfl ?_
  intro cx ρ hr h0
  have hn1 : xs.length ≤ 4096 := hr.n1
  have hk1 : k ≤ xs.length := hr.l1
  refine Cd.seq fun K26 hK26 => ?_
  refine Cd.plain [(0, false)] rfl rfl ?_
  refine Jp.y 4 rfl (want_all rfl) rfl rfl Kp.true (Y.assign rfl rfl) ?_
  refine Jp.done hK26 ?_
  refine Cd.seq fun K27 hK27 => ?_
  refine Cd.seq fun K28 hK28 => ?_
  refine Cd.plain [(0, false), (1, false)] rfl rfl ?_
  refine Jp.y 5 rfl (want_all rfl) rfl rfl Kp.true (Y.move rfl rfl) ?_
  refine Jp.y 6 rfl (want_all rfl) rfl rfl Kp.true (Y.lss rfl rfl rfl) ?_
  refine Jp.done hK28 ?_
  refine Cd.cond rfl (fun ga => ?_) (fun ga => ?_)
  · simp only [decide_eq_true_eq] at ga
    refine Cd.seq fun K29 hK29 => ?_
    refine Cd.plain [(0, false)] rfl rfl ?_
    refine Jp.y 4 rfl (want_all rfl) rfl rfl Kp.true (Y.assign rfl rfl) ?_
    refine Jp.done hK29 ?_
    refine Cd.ret [(0, _)] rfl (res1 rfl rfl) ⟨rfl, trivial⟩ ⟨rfl, by rw [takeP, if_pos ga], _, rfl, ⟨⟨args, input, ⟨As, cs, xs⟩, random, clock, files⟩, k, kb, kc⟩, rfl, hr, by rw [takeP, if_pos ga]⟩
  · simp only [decide_eq_false_iff_not] at ga
    refine Cd.skip hK27 ?_
    refine Cd.seq fun K30 hK30 => ?_
    refine Cd.seq fun K31 hK31 => ?_
    refine Cd.drawn [(0, _)] ⟨rfl, trivial⟩ [(0, true), (1, true), (2, true), (3, true), (4, true), (5, true), (6, true), (7, true), (8, true), (9, true), (10, true)] follows (by kernel_rfl) (fun hrl => ?_)
    refine Jp.q 7 rfl (want_all rfl) rfl rfl (Y.move rfl rfl) ?_
    refine Jp.q 8 rfl (want_all rfl) rfl rfl (Y.nilCheck rfl rfl) ?_
    refine Jp.q 9 rfl (want_all rfl) rfl rfl (by first | exact Y.fieldAddrP rfl rfl Try.underlying53 rfl Try.sizeOf3 (by decide) (show _ + 6 = _ from rfl) | exact Y.fieldAddr rfl rfl Try.underlying53 rfl Try.sizeOf3 (by decide)) ?_
    refine Jp.q 10 rfl (want_all rfl) rfl rfl (Y.loadO 0 rfl Try.isAgg3 rfl rfl rfl) ?_
    refine Jp.q 11 rfl (want_all rfl) rfl rfl (Y.move rfl rfl) ?_
    refine Jp.q 12 rfl (want_all rfl) rfl rfl (Y.nilCheck rfl rfl) ?_
    refine Jp.q 13 rfl (want_all rfl) rfl rfl (by first | exact Y.fieldAddrP rfl rfl Try.underlying53 rfl Try.sizeOf30 (by decide) (show _ + 0 = _ from rfl) | exact Y.fieldAddr rfl rfl Try.underlying53 rfl Try.sizeOf30 (by decide)) ?_
    refine Jp.q 14 rfl (want_all rfl) rfl rfl (by first | exact Y.fieldAddrP rfl rfl Try.underlying30 rfl Try.sizeOf22 (by decide) (show _ + 2 = _ from rfl) | exact Y.fieldAddr rfl rfl Try.underlying30 rfl Try.sizeOf22 (by decide)) ?_
    refine Jp.q 15 rfl (want_all rfl) rfl rfl (Y.loadO 0 rfl Try.isAgg22 rfl rfl rfl) ?_
    refine Jp.q 16 rfl (want_all rfl) rfl rfl (Y.lenslice rfl Try.underlying22 rfl) ?_
    refine Jp.q 17 rfl (want_all rfl) rfl rfl (Y.eql rfl rfl rfl) ?_
    refine Jp.done hK31 ?_
    refine Cd.cond rfl (fun gb => ?_) (fun gb => ?_)
    · simp only [beq_iff_eq] at gb
      have hx : xs[k]? = none := by rw [List.getElem?_eq_none_iff]; omega
      have e : takeP (RefG.p ⟨⟨args, input, ⟨As, cs, xs⟩, random, clock, files⟩, k, kb, kc⟩) n = (n, RefG.p ⟨⟨args, input, ⟨As, cs, xs⟩, random, clock, files⟩, k, kb, kc⟩) := by
        rw [takeP, if_neg ga]; simp only [RefG.p, hx]
      refine Cd.seq fun K33 hK33 => ?_
      refine Cd.plain [(0, false), (1, false)] rfl rfl ?_
      refine Jp.y 18 rfl (want_all rfl) rfl rfl Kp.true (Y.move rfl rfl) ?_
      refine Jp.y 4 rfl (want_all rfl) rfl rfl Kp.true (Y.assign rfl rfl) ?_
      refine Jp.done hK33 ?_
      refine Cd.ret [(0, _)] rfl (res1 rfl rfl) ⟨rfl, trivial⟩ ⟨rfl, by rw [e], _, rfl, ⟨⟨args, input, ⟨As, cs, xs⟩, random, clock, files⟩, k, kb, kc⟩, rfl, hr, by rw [e]⟩
    · simp only [beq_eq_false_iff_ne, ne_eq] at gb
      have hlt : k < xs.length := by omega
      have hx : xs[k]? = some xs[k] := by simp [hlt]
      have e : takeP (RefG.p ⟨⟨args, input, ⟨As, cs, xs⟩, random, clock, files⟩, k, kb, kc⟩) n = (if xs[k] < n then xs[k] else n, RefG.p ⟨⟨args, input, ⟨As, cs, xs⟩, random, clock, files⟩, k + 1, kb, kc⟩) := by
        rw [takeP, if_neg ga]; simp only [RefG.p, hx]
      obtain ⟨ad, rfl⟩ := hr.short.some (show 0 < xs.length * 1 by omega)
      have hcell : cellH ρ (ad.add k) = some (.int .i64 xs[k]) := hr.short.cell (by simp [intsV, hlt])
      refine Cd.skip hK30 ?_
      refine Cd.seq fun K34 hK34 => ?_
      refine Cd.plain [(0, false), (1, false), (2, false), (3, false), (4, false), (5, false), (6, false), (7, false)] rfl rfl ?_
      refine Jp.y 19 rfl (want_all rfl) rfl rfl Kp.true (Y.move rfl rfl) ?_
      refine Jp.y 20 rfl (want_all rfl) rfl rfl Kp.true (Y.nilCheck rfl rfl) ?_
      refine Jp.y 21 rfl (want_all rfl) rfl rfl Kp.true (by first | exact Y.fieldAddrP rfl rfl Try.underlying53 rfl Try.sizeOf3 (by decide) (show _ + 6 = _ from rfl) | exact Y.fieldAddr rfl rfl Try.underlying53 rfl Try.sizeOf3 (by decide)) ?_
      refine Jp.y 22 rfl (want_all rfl) rfl rfl Kp.true (by first | exact Y.loadO 0 rfl Try.isAgg3 rfl rfl rfl | exact Y.loadR rfl Try.isAgg3 rfl hcell) ?_
      refine Jp.y 23 rfl (want_all rfl) rfl rfl Kp.true (Y.add_ rfl rfl rfl (by first | exact wrap_i64 (by omega) (by omega) | rfl)) ?_
      refine Jp.y 24 rfl (want_all rfl) rfl rfl Kp.true (Y.nilCheck rfl rfl) ?_
      refine Jp.y 25 rfl (want_all rfl) rfl rfl Kp.true (by first | exact Y.fieldAddrP rfl rfl Try.underlying53 rfl Try.sizeOf3 (by decide) (show _ + 6 = _ from rfl) | exact Y.fieldAddr rfl rfl Try.underlying53 rfl Try.sizeOf3 (by decide)) ?_
      refine Jp.store 0 rfl (want_all rfl) rfl rfl Try.sizeOf3 rfl rfl rfl rfl rfl rfl Kp.true ?_
      refine Jp.done hK34 ?_
      refine Cd.seq fun K35 hK35 => ?_
      refine Cd.seq fun K36 hK36 => ?_
      refine Cd.drawn [(0, _)] ⟨rfl, trivial⟩ [(0, true), (1, true), (2, true), (3, true), (4, true), (5, true), (6, true), (7, true), (8, true), (9, true), (10, true), (11, true), (12, true), (13, true)] follows (by kernel_rfl) (fun hrl => ?_)
      refine Jp.q 26 rfl (want_all rfl) rfl rfl (Y.move rfl rfl) ?_
      refine Jp.q 27 rfl (want_all rfl) rfl rfl (Y.nilCheck rfl rfl) ?_
      refine Jp.q 28 rfl (want_all rfl) rfl rfl (by first | exact Y.fieldAddrP rfl rfl Try.underlying53 rfl Try.sizeOf30 (by decide) (show _ + 0 = _ from rfl) | exact Y.fieldAddr rfl rfl Try.underlying53 rfl Try.sizeOf30 (by decide)) ?_
      refine Jp.q 29 rfl (want_all rfl) rfl rfl (by first | exact Y.fieldAddrP rfl rfl Try.underlying30 rfl Try.sizeOf22 (by decide) (show _ + 2 = _ from rfl) | exact Y.fieldAddr rfl rfl Try.underlying30 rfl Try.sizeOf22 (by decide)) ?_
      refine Jp.q 30 rfl (want_all rfl) rfl rfl (by first | exact Y.loadO 0 rfl Try.isAgg22 rfl rfl rfl | exact Y.loadR rfl Try.isAgg22 rfl hcell) ?_
      refine Jp.q 31 rfl (want_all rfl) rfl rfl (Y.move rfl rfl) ?_
      refine Jp.q 32 rfl (want_all rfl) rfl rfl (Y.nilCheck rfl rfl) ?_
      refine Jp.q 33 rfl (want_all rfl) rfl rfl (by first | exact Y.fieldAddrP rfl rfl Try.underlying53 rfl Try.sizeOf3 (by decide) (show _ + 6 = _ from rfl) | exact Y.fieldAddr rfl rfl Try.underlying53 rfl Try.sizeOf3 (by decide)) ?_
      refine Jp.q 34 rfl (want_all rfl) rfl rfl (by first | exact Y.loadO 0 rfl Try.isAgg3 rfl rfl rfl | exact Y.loadR rfl Try.isAgg3 rfl hcell) ?_
      refine Jp.q 35 rfl (want_all rfl) rfl rfl (Y.sub_ rfl rfl rfl (by first | exact wrap_i64 (by omega) (by omega) | rfl)) ?_
      refine Jp.q 36 rfl (want_all rfl) rfl rfl (Y.indexAddr (q := k) rfl rfl rfl Try.underlying22 Try.sizeOf3 (by omega) (by omega) (by omega)) ?_
      refine Jp.q 37 rfl (want_all rfl) rfl rfl (by first | exact Y.loadO 0 rfl Try.isAgg3 rfl rfl rfl | exact Y.loadR rfl Try.isAgg3 rfl hcell) ?_
      refine Jp.q 38 rfl (want_all rfl) rfl rfl (Y.move rfl rfl) ?_
      refine Jp.q 39 rfl (want_all rfl) rfl rfl (Y.lss rfl rfl rfl) ?_
      refine Jp.done hK36 ?_
      refine Cd.cond rfl (fun gc => ?_) (fun gc => ?_)
      · simp only [decide_eq_true_eq] at gc
        refine Cd.drawn [(0, _)] ⟨rfl, trivial⟩ [(0, true), (1, true), (2, true), (3, true), (4, true), (5, true), (6, true), (7, true), (8, true), (9, true), (10, true), (11, true), (12, true)] follows (by kernel_rfl) (fun hrl => ?_)
        refine Jp.q 40 rfl (want_all rfl) rfl rfl (Y.move rfl rfl) ?_
        refine Jp.q 41 rfl (want_all rfl) rfl rfl (Y.nilCheck rfl rfl) ?_
        refine Jp.q 42 rfl (want_all rfl) rfl rfl (by first | exact Y.fieldAddrP rfl rfl Try.underlying53 rfl Try.sizeOf30 (by decide) (show _ + 0 = _ from rfl) | exact Y.fieldAddr rfl rfl Try.underlying53 rfl Try.sizeOf30 (by decide)) ?_
        refine Jp.q 43 rfl (want_all rfl) rfl rfl (by first | exact Y.fieldAddrP rfl rfl Try.underlying30 rfl Try.sizeOf22 (by decide) (show _ + 2 = _ from rfl) | exact Y.fieldAddr rfl rfl Try.underlying30 rfl Try.sizeOf22 (by decide)) ?_
        refine Jp.q 44 rfl (want_all rfl) rfl rfl (by first | exact Y.loadO 0 rfl Try.isAgg22 rfl rfl rfl | exact Y.loadR rfl Try.isAgg22 rfl hcell) ?_
        refine Jp.q 45 rfl (want_all rfl) rfl rfl (Y.move rfl rfl) ?_
        refine Jp.q 46 rfl (want_all rfl) rfl rfl (Y.nilCheck rfl rfl) ?_
        refine Jp.q 47 rfl (want_all rfl) rfl rfl (by first | exact Y.fieldAddrP rfl rfl Try.underlying53 rfl Try.sizeOf3 (by decide) (show _ + 6 = _ from rfl) | exact Y.fieldAddr rfl rfl Try.underlying53 rfl Try.sizeOf3 (by decide)) ?_
        refine Jp.q 48 rfl (want_all rfl) rfl rfl (by first | exact Y.loadO 0 rfl Try.isAgg3 rfl rfl rfl | exact Y.loadR rfl Try.isAgg3 rfl hcell) ?_
        refine Jp.q 49 rfl (want_all rfl) rfl rfl (Y.sub_ rfl rfl rfl (by first | exact wrap_i64 (by omega) (by omega) | rfl)) ?_
        refine Jp.q 50 rfl (want_all rfl) rfl rfl (Y.indexAddr (q := k) rfl rfl rfl Try.underlying22 Try.sizeOf3 (by omega) (by omega) (by omega)) ?_
        refine Jp.q 51 rfl (want_all rfl) rfl rfl (by first | exact Y.loadO 0 rfl Try.isAgg3 rfl rfl rfl | exact Y.loadR rfl Try.isAgg3 rfl hcell) ?_
        refine Jp.q 1 rfl (want_all rfl) rfl rfl (Y.assign rfl rfl) ?_
        refine Jp.done hK35 ?_
        refine Cd.seq fun K39 hK39 => ?_
        refine Cd.plain [(0, false), (1, false)] rfl rfl ?_
        refine Jp.y 52 rfl (want_all rfl) rfl rfl Kp.true (Y.move rfl rfl) ?_
        refine Jp.y 4 rfl (want_all rfl) rfl rfl Kp.true (Y.assign rfl rfl) ?_
        refine Jp.done hK39 ?_
        refine Cd.ret [(0, _)] rfl (res1 rfl rfl) ⟨rfl, trivial⟩ ?_
        exact ⟨rfl, by rw [e, if_pos gc], _, rfl, ⟨⟨args, input, ⟨some ad, cs, xs⟩, random, clock, files⟩, k + 1, kb, kc⟩, rfl, { hr with l1 := hlt }, by rw [e]⟩
      · simp only [decide_eq_false_iff_not] at gc
        refine Cd.skip hK35 ?_
        refine Cd.seq fun K40 hK40 => ?_
        refine Cd.plain [(0, false), (1, false)] rfl rfl ?_
        refine Jp.y 52 rfl (want_all rfl) rfl rfl Kp.true (Y.move rfl rfl) ?_
        refine Jp.y 4 rfl (want_all rfl) rfl rfl Kp.true (Y.assign rfl rfl) ?_
        refine Jp.done hK40 ?_
        refine Cd.ret [(0, _)] rfl (res1 rfl rfl) ⟨rfl, trivial⟩ ?_
        exact ⟨rfl, by rw [e, if_neg gc], _, rfl, ⟨⟨args, input, ⟨some ad, cs, xs⟩, random, clock, files⟩, k + 1, kb, kc⟩, rfl, { hr with l1 := hlt }, by rw [e]⟩
theorem f27_spec (b : Nat) (u : RefG) : Spec Try.prog 27 #[.pointer (some ⟨b, 0, none⟩)] (RdRef u) [(0, RefPt b u)]
    (fun ρ ρ' v L => ρ' = ρ ∧ v = .int .u32 (timeP u.p).1 ∧ ∃ A, L = [(0, A)] ∧ RefEnd b (timeP u.p).2 ρ A) := by
  obtain ⟨⟨args, input, short, random, ⟨A, c, xs⟩, files⟩, k, kb, kc⟩ := u
  dsimp only [RefPt, RefG.cells, Sl.v]
  refine Spec.of 38 Try.func27 rfl Try.ntmps27 [(0, _)] rfl rfl ?_
  intro cx ρ hr h0
  have hn1 : xs.length ≤ 4096 := hr.n3
  have hk1 : kc ≤ xs.length := hr.l3
  refine Cd.seq fun K41 hK41 => ?_
  refine Cd.plain [(0, false)] rfl rfl ?_
  refine Jp.y 2 rfl (want_all rfl) rfl rfl Kp.true (Y.assign rfl rfl) ?_
  refine Jp.done hK41 ?_
  refine Cd.seq fun K42 hK42 => ?_
  refine Cd.seq fun K43 hK43 => ?_
  refine Cd.drawn [(0, _)] ⟨rfl, trivial⟩ [(0, true), (1, true), (2, true), (3, true), (4, true), (5, true), (6, true), (7, true), (8, true), (9, true), (10, true)] follows (by kernel_rfl) (fun hrl => ?_)
  refine Jp.q 3 rfl (want_all rfl) rfl rfl (Y.move rfl rfl) ?_
  refine Jp.q 4 rfl (want_all rfl) rfl rfl (Y.nilCheck rfl rfl) ?_
  refine Jp.q 5 rfl (want_all rfl) rfl rfl (by first | exact Y.fieldAddrP rfl rfl Try.underlying53 rfl Try.sizeOf3 (by decide) (show _ + 8 = _ from rfl) | exact Y.fieldAddr rfl rfl Try.underlying53 rfl Try.sizeOf3 (by decide)) ?_
  refine Jp.q 6 rfl (want_all rfl) rfl rfl (Y.loadO 0 rfl Try.isAgg3 rfl rfl rfl) ?_
  refine Jp.q 7 rfl (want_all rfl) rfl rfl (Y.move rfl rfl) ?_
  refine Jp.q 8 rfl (want_all rfl) rfl rfl (Y.nilCheck rfl rfl) ?_
  refine Jp.q 9 rfl (want_all rfl) rfl rfl (by first | exact Y.fieldAddrP rfl rfl Try.underlying53 rfl Try.sizeOf30 (by decide) (show _ + 0 = _ from rfl) | exact Y.fieldAddr rfl rfl Try.underlying53 rfl Try.sizeOf30 (by decide)) ?_
  refine Jp.q 10 rfl (want_all rfl) rfl rfl (by first | exact Y.fieldAddrP rfl rfl Try.underlying30 rfl Try.sizeOf27 (by decide) (show _ + 4 = _ from rfl) | exact Y.fieldAddr rfl rfl Try.underlying30 rfl Try.sizeOf27 (by decide)) ?_
  refine Jp.q 11 rfl (want_all rfl) rfl rfl (Y.loadO 0 rfl Try.isAgg27 rfl rfl rfl) ?_
  refine Jp.q 12 rfl (want_all rfl) rfl rfl (Y.lenslice rfl Try.underlying27 rfl) ?_
  refine Jp.q 13 rfl (want_all rfl) rfl rfl (Y.lss rfl rfl rfl) ?_
  refine Jp.done hK43 ?_
  refine Cd.cond rfl (fun h3 => ?_) (fun h3 => ?_)
  · simp only [decide_eq_true_eq] at h3
    have h3' : kc < xs.length := by omega
    have h2 : ¬ xs = [] := fun h => by rw [h] at h3'; cases h3'
    obtain ⟨ad, rfl⟩ := hr.clock.some (show 0 < xs.length * 1 by omega)
    have e : timeP (RefG.p ⟨⟨args, input, short, random, ⟨some ad, c, xs⟩, files⟩, k, kb, kc⟩) = (xs.getD kc 0, RefG.p ⟨⟨args, input, short, random, ⟨some ad, c, xs⟩, files⟩, k, kb, kc + 1⟩) := by
      simp only [timeP, RefG.p, h2, if_false, h3', if_true, Nat.add_sub_cancel]
    have hcell : cellH ρ (ad.add kc) = some (.int .u32 (xs.getD kc 0)) := hr.clock.cell (by simp [intsV, h3'])
    refine Cd.plain [(0, false), (1, false), (2, false), (3, false), (4, false), (5, false), (6, false), (7, false)] rfl rfl ?_
    refine Jp.y 14 rfl (want_all rfl) rfl rfl Kp.true (Y.move rfl rfl) ?_
    refine Jp.y 15 rfl (want_all rfl) rfl rfl Kp.true (Y.nilCheck rfl rfl) ?_
    refine Jp.y 16 rfl (want_all rfl) rfl rfl Kp.true (by first | exact Y.fieldAddrP rfl rfl Try.underlying53 rfl Try.sizeOf3 (by decide) (show _ + 8 = _ from rfl) | exact Y.fieldAddr rfl rfl Try.underlying53 rfl Try.sizeOf3 (by decide)) ?_
    refine Jp.y 17 rfl (want_all rfl) rfl rfl Kp.true (Y.loadO 0 rfl Try.isAgg3 rfl rfl rfl) ?_
    refine Jp.y 18 rfl (want_all rfl) rfl rfl Kp.true (Y.add_ rfl rfl rfl (by first | exact wrap_i64 (by omega) (by omega) | rfl)) ?_
    refine Jp.y 19 rfl (want_all rfl) rfl rfl Kp.true (Y.nilCheck rfl rfl) ?_
    refine Jp.y 20 rfl (want_all rfl) rfl rfl Kp.true (by first | exact Y.fieldAddrP rfl rfl Try.underlying53 rfl Try.sizeOf3 (by decide) (show _ + 8 = _ from rfl) | exact Y.fieldAddr rfl rfl Try.underlying53 rfl Try.sizeOf3 (by decide)) ?_
    refine Jp.store 0 rfl (want_all rfl) rfl rfl Try.sizeOf3 rfl rfl rfl rfl rfl rfl Kp.true ?_
    refine Jp.done hK42 ?_
    refine Cd.seq fun K45 hK45 => ?_
    refine Cd.seq fun K46 hK46 => ?_
    refine Cd.plain [(0, false), (1, false), (2, false), (3, false), (4, false)] rfl rfl ?_
    refine Jp.y 21 rfl (want_all rfl) rfl rfl Kp.true (Y.move rfl rfl) ?_
    refine Jp.y 22 rfl (want_all rfl) rfl rfl Kp.true (Y.nilCheck rfl rfl) ?_
    refine Jp.y 23 rfl (want_all rfl) rfl rfl Kp.true (by first | exact Y.fieldAddrP rfl rfl Try.underlying53 rfl Try.sizeOf3 (by decide) (show _ + 8 = _ from rfl) | exact Y.fieldAddr rfl rfl Try.underlying53 rfl Try.sizeOf3 (by decide)) ?_
    refine Jp.y 24 rfl (want_all rfl) rfl rfl Kp.true (Y.loadO 0 rfl Try.isAgg3 rfl rfl rfl) ?_
    refine Jp.y 25 rfl (want_all rfl) rfl rfl Kp.true (Y.eql rfl rfl rfl) ?_
    refine Jp.done hK46 ?_
    refine Cd.cond rfl (fun h4 => ?_) (fun h4 => ?_)
    · simp only [beq_iff_eq] at h4
      omega
    · skip
      refine Cd.skip hK45 ?_
      refine Cd.seq fun K47 hK47 => ?_
      refine Cd.drawn [(0, _)] ⟨rfl, trivial⟩ [(0, true), (1, true), (2, true), (3, true), (4, true), (5, true), (6, true), (7, true), (8, true), (9, true), (10, true), (11, true), (12, true)] follows (by kernel_rfl) (fun hrl => ?_)
      refine Jp.q 26 rfl (want_all rfl) rfl rfl (Y.move rfl rfl) ?_
      refine Jp.q 27 rfl (want_all rfl) rfl rfl (Y.nilCheck rfl rfl) ?_
      refine Jp.q 28 rfl (want_all rfl) rfl rfl (by first | exact Y.fieldAddrP rfl rfl Try.underlying53 rfl Try.sizeOf30 (by decide) (show _ + 0 = _ from rfl) | exact Y.fieldAddr rfl rfl Try.underlying53 rfl Try.sizeOf30 (by decide)) ?_
      refine Jp.q 29 rfl (want_all rfl) rfl rfl (by first | exact Y.fieldAddrP rfl rfl Try.underlying30 rfl Try.sizeOf27 (by decide) (show _ + 4 = _ from rfl) | exact Y.fieldAddr rfl rfl Try.underlying30 rfl Try.sizeOf27 (by decide)) ?_
      refine Jp.q 30 rfl (want_all rfl) rfl rfl (by first | exact Y.loadO 0 rfl Try.isAgg27 rfl rfl rfl | exact Y.loadR rfl Try.isAgg27 rfl hcell) ?_
      refine Jp.q 31 rfl (want_all rfl) rfl rfl (Y.move rfl rfl) ?_
      refine Jp.q 32 rfl (want_all rfl) rfl rfl (Y.nilCheck rfl rfl) ?_
      refine Jp.q 33 rfl (want_all rfl) rfl rfl (by first | exact Y.fieldAddrP rfl rfl Try.underlying53 rfl Try.sizeOf3 (by decide) (show _ + 8 = _ from rfl) | exact Y.fieldAddr rfl rfl Try.underlying53 rfl Try.sizeOf3 (by decide)) ?_
      refine Jp.q 34 rfl (want_all rfl) rfl rfl (by first | exact Y.loadO 0 rfl Try.isAgg3 rfl rfl rfl | exact Y.loadR rfl Try.isAgg3 rfl hcell) ?_
      refine Jp.q 35 rfl (want_all rfl) rfl rfl (Y.sub_ rfl rfl rfl (by first | exact wrap_i64 (by omega) (by omega) | rfl)) ?_
      refine Jp.q 36 rfl (want_all rfl) rfl rfl (Y.indexAddr (q := kc) rfl rfl rfl Try.underlying27 Try.sizeOf49 (by omega) (by omega) (by omega)) ?_
      refine Jp.q 37 rfl (want_all rfl) rfl rfl (by first | exact Y.loadO 0 rfl Try.isAgg49 rfl rfl rfl | exact Y.loadR rfl Try.isAgg49 rfl hcell) ?_
      refine Jp.q 2 rfl (want_all rfl) rfl rfl (Y.assign rfl rfl) ?_
      refine Jp.done hK47 ?_
      refine Cd.ret [(0, _)] rfl (res1 rfl rfl) ⟨rfl, trivial⟩ ⟨rfl, by rw [e], _, rfl, ⟨⟨args, input, short, random, ⟨some ad, c, xs⟩, files⟩, k, kb, kc + 1⟩, rfl, { hr with l3 := h3' }, by rw [e]⟩
  · simp only [decide_eq_false_iff_not] at h3
    have h3' : ¬ kc < xs.length := by omega
    refine Cd.skip hK42 ?_
    refine Cd.seq fun K49 hK49 => ?_
    refine Cd.seq fun K50 hK50 => ?_
    refine Cd.plain [(0, false), (1, false), (2, false), (3, false), (4, false)] rfl rfl ?_
    refine Jp.y 21 rfl (want_all rfl) rfl rfl Kp.true (Y.move rfl rfl) ?_
    refine Jp.y 22 rfl (want_all rfl) rfl rfl Kp.true (Y.nilCheck rfl rfl) ?_
    refine Jp.y 23 rfl (want_all rfl) rfl rfl Kp.true (by first | exact Y.fieldAddrP rfl rfl Try.underlying53 rfl Try.sizeOf3 (by decide) (show _ + 8 = _ from rfl) | exact Y.fieldAddr rfl rfl Try.underlying53 rfl Try.sizeOf3 (by decide)) ?_
    refine Jp.y 24 rfl (want_all rfl) rfl rfl Kp.true (by first | exact Y.loadO 0 rfl Try.isAgg3 rfl rfl rfl | exact Y.loadR rfl Try.isAgg3 rfl hcell) ?_
    refine Jp.y 25 rfl (want_all rfl) rfl rfl Kp.true (Y.eql rfl rfl rfl) ?_
    refine Jp.done hK50 ?_
    refine Cd.cond rfl (fun h4 => ?_) (fun h4 => ?_)
    · simp only [beq_iff_eq] at h4
      have h2 : xs = [] := List.length_eq_zero_iff.1 (by omega)
      have e : timeP (RefG.p ⟨⟨args, input, short, random, ⟨A, c, xs⟩, files⟩, k, kb, kc⟩) = (0, RefG.p ⟨⟨args, input, short, random, ⟨A, c, xs⟩, files⟩, k, kb, kc⟩) := by simp only [timeP, RefG.p, h2, if_true]
      refine Cd.seq fun K51 hK51 => ?_
      refine Cd.plain [(0, false)] rfl rfl ?_
      refine Jp.y 2 rfl (want_all rfl) rfl rfl Kp.true (Y.assign rfl rfl) ?_
      refine Jp.done hK51 ?_
      refine Cd.ret [(0, _)] rfl (res1 rfl rfl) ⟨rfl, trivial⟩ ⟨rfl, by rw [e], _, rfl, ⟨⟨args, input, short, random, ⟨A, c, xs⟩, files⟩, k, kb, kc⟩, rfl, hr, by rw [e]⟩
    · simp only [beq_eq_false_iff_ne, ne_eq] at h4
      have hpos : 0 < xs.length := by omega
      have h2 : ¬ xs = [] := fun h => by rw [h] at hpos; cases hpos
      obtain ⟨ad, rfl⟩ := hr.clock.some (show 0 < xs.length * 1 by omega)
      have e : timeP (RefG.p ⟨⟨args, input, short, random, ⟨some ad, c, xs⟩, files⟩, k, kb, kc⟩) = (xs.getD (kc - 1) 0, RefG.p ⟨⟨args, input, short, random, ⟨some ad, c, xs⟩, files⟩, k, kb, kc⟩) := by
        simp only [timeP, RefG.p, h2, if_false, h3']
      have h5 : kc - 1 < xs.length := by omega
      have hcell : cellH ρ (ad.add (kc - 1)) = some (.int .u32 (xs.getD (kc - 1) 0)) := hr.clock.cell (by simp [intsV, h5])
      refine Cd.skip hK49 ?_
      refine Cd.seq fun K52 hK52 => ?_
      refine Cd.drawn [(0, _)] ⟨rfl, trivial⟩ [(0, true), (1, true), (2, true), (3, true), (4, true), (5, true), (6, true), (7, true), (8, true), (9, true), (10, true), (11, true), (12, true)] follows (by kernel_rfl) (fun hrl => ?_)
      refine Jp.q 26 rfl (want_all rfl) rfl rfl (Y.move rfl rfl) ?_
      refine Jp.q 27 rfl (want_all rfl) rfl rfl (Y.nilCheck rfl rfl) ?_
      refine Jp.q 28 rfl (want_all rfl) rfl rfl (by first | exact Y.fieldAddrP rfl rfl Try.underlying53 rfl Try.sizeOf30 (by decide) (show _ + 0 = _ from rfl) | exact Y.fieldAddr rfl rfl Try.underlying53 rfl Try.sizeOf30 (by decide)) ?_
      refine Jp.q 29 rfl (want_all rfl) rfl rfl (by first | exact Y.fieldAddrP rfl rfl Try.underlying30 rfl Try.sizeOf27 (by decide) (show _ + 4 = _ from rfl) | exact Y.fieldAddr rfl rfl Try.underlying30 rfl Try.sizeOf27 (by decide)) ?_
      refine Jp.q 30 rfl (want_all rfl) rfl rfl (by first | exact Y.loadO 0 rfl Try.isAgg27 rfl rfl rfl | exact Y.loadR rfl Try.isAgg27 rfl hcell) ?_
      refine Jp.q 31 rfl (want_all rfl) rfl rfl (Y.move rfl rfl) ?_
      refine Jp.q 32 rfl (want_all rfl) rfl rfl (Y.nilCheck rfl rfl) ?_
      refine Jp.q 33 rfl (want_all rfl) rfl rfl (by first | exact Y.fieldAddrP rfl rfl Try.underlying53 rfl Try.sizeOf3 (by decide) (show _ + 8 = _ from rfl) | exact Y.fieldAddr rfl rfl Try.underlying53 rfl Try.sizeOf3 (by decide)) ?_
      refine Jp.q 34 rfl (want_all rfl) rfl rfl (by first | exact Y.loadO 0 rfl Try.isAgg3 rfl rfl rfl | exact Y.loadR rfl Try.isAgg3 rfl hcell) ?_
      refine Jp.q 35 rfl (want_all rfl) rfl rfl (Y.sub_ rfl rfl rfl (by first | exact wrap_i64 (by omega) (by omega) | rfl)) ?_
      refine Jp.q 36 rfl (want_all rfl) rfl rfl (Y.indexAddr (q := kc - 1) rfl rfl rfl Try.underlying27 Try.sizeOf49 (by omega) (by omega) (by omega)) ?_
      refine Jp.q 37 rfl (want_all rfl) rfl rfl (by first | exact Y.loadO 0 rfl Try.isAgg49 rfl rfl rfl | exact Y.loadR rfl Try.isAgg49 rfl hcell) ?_
      refine Jp.q 2 rfl (want_all rfl) rfl rfl (Y.assign rfl rfl) ?_
      refine Jp.done hK52 ?_
      refine Cd.ret [(0, _)] rfl (res1 rfl rfl) ⟨rfl, trivial⟩ ⟨rfl, by rw [e], _, rfl, ⟨⟨args, input, short, random, ⟨some ad, c, xs⟩, files⟩, k, kb, kc⟩, rfl, hr, by rw [e]⟩
end Go.Proofs.Ytjjhihlmoecmlaa
