import Derived.Test.YtogkncmhonomdaaZFeedH
set_option linter.unusedVariables false
set_option linter.unusedSimpArgs false
set_option maxRecDepth 100000
namespace Go.Proofs.Ytogkncmhonomdaa
open Go
theorem goodArg_of {s : ByteArray} (h : (s.size : Int) ≤ 200) (h2 : (str s).contains 0 = false) : goodArg (str s) = true := by
  have := str_size s
  have h3 : (str s).length ≤ 200 := by omega
  simp only [goodArg, h2, h3, decide_true, Bool.not_false, Bool.and_self]
theorem goodArg_not {s : ByteArray} (h2 : (str s).contains 0 = true) : goodArg (str s) = false := by
  simp only [goodArg, h2, Bool.not_true, Bool.and_false]
theorem goodFile_short {f : FileG} (h : (f.name.size : Int) < 1) : goodFile f.p = false := by
  have := str_size f.name
  exact goodFile_empty (List.length_eq_zero_iff.1 (by omega))
theorem goodFile_nul' {f : FileG} (h2 : (str f.name).contains 0 = true) : goodFile f.p = false := by
  simp only [goodFile, FileG.p, h2, Bool.not_true, Bool.and_false, Bool.false_and]
theorem goodFile_of {f : FileG} (h1 : (1 : Int) ≤ f.name.size) (h2 : (f.name.size : Int) ≤ 40) (h3 : (str f.name).contains 0 = false) (h4 : (f.data.xs.length : Int) ≤ 4096) : goodFile f.p = true := by
  have := str_size f.name
  have h7 : (str f.name).isEmpty = false := by cases h : str f.name with
    | nil =>
      have h0 : f.name.size = 0 := by rw [this, h]; rfl
      omega
    | cons x l => rfl
  have h8 : (str f.name).length ≤ 40 := by omega
  have h9 : f.data.xs.length ≤ 4096 := by omega
  simp only [goodFile, FileG.p, h3, h7, h8, h9, Bool.not_false, Bool.true_and, decide_true]
theorem f42_spec (f : FeedG) : Spec Try.prog 42 #[.agg f.cells.toArray] (RdFeed f) [] (fun ρ ρ' v L => ρ' = ρ ∧ v = .bool (good f.p) ∧ L = []) := by
  obtain ⟨⟨Aa, ca, xa⟩, ⟨Ai, ci, xi⟩, ⟨As, cs, xs⟩, ⟨Ar, cr, xr⟩, ⟨Ac, cc, xk⟩, ⟨Af, cf, xf⟩⟩ := f
  dsimp only [FeedG.cells, Sl.v]
  refine Spec.of 132 Try.func42 rfl Try.ntmps42 [(0, _)] rfl rfl ?_
  intro cx ρ hr h0
  have la : xa.length ≤ 281474976710656 := hr.args.2.1.2
  have ls : xs.length ≤ 281474976710656 := hr.short.2.1.2
  have lf : xf.length ≤ 281474976710656 := hr.files.1.2.1.2
  refine Cd.seq fun K1 hK1 => ?_
  refine Cd.plain [(0, false), (1, false)] rfl rfl ?_
  refine Jp.box 50 1 rfl (want_all rfl) rfl rfl rfl rfl fun b50 => ⟨Kp.true, ?_⟩
  refine Jp.y 2 rfl (want_all rfl) rfl rfl Kp.true (Y.assign rfl rfl) ?_
  refine Jp.done hK1 ?_
  refine Cd.seq fun K2 hK2 => ?_
  refine Cd.seq fun K3 hK3 => ?_
  refine Cd.plain [(0, false), (1, false), (2, false), (3, false), (4, false), (5, false), (6, false), (7, false), (8, false), (9, false), (10, false), (11, false), (12, false), (13, false), (14, false), (15, false), (16, false), (17, false), (18, false), (19, false), (20, false), (21, false), (22, false), (23, false), (24, false), (25, false), (26, false), (27, false), (28, false), (29, false), (30, false), (31, false), (32, false), (33, false)] rfl rfl ?_
  refine Jp.y 8 rfl (want_all rfl) rfl rfl Kp.true (by first | exact Y.fieldAddrP rfl rfl Try.underlying38 rfl Try.sizeOf22 (by decide) (show _ + 0 = _ from rfl) | exact Y.fieldAddr rfl rfl Try.underlying38 rfl Try.sizeOf22 (by decide)) ?_
  refine Jp.y 9 rfl (want_all rfl) rfl rfl Kp.true (by first | exact Y.loadO 50 rfl Try.isAgg22 rfl rfl rfl | exact Y.loadO 50 rfl Try.isAgg22 rfl rfl rfl) ?_
  refine Jp.y 10 rfl (want_all rfl) rfl rfl Kp.true (Y.lenslice rfl Try.underlying22 rfl) ?_
  refine Jp.y 11 rfl (want_all rfl) rfl rfl Kp.true (Y.gtr rfl rfl rfl) ?_
  refine Jp.y 12 rfl (want_all rfl) rfl rfl Kp.true (Y.move rfl rfl) ?_
  refine Jp.split 12 rfl (fun g12 => ?_) (fun g12 => ?_)
  · skip
    refine Jp.skip 13 rfl (want_as rfl rfl rfl rfl) rfl rfl Kp.true ?_
    refine Jp.skip 14 rfl (want_as rfl rfl rfl rfl) rfl rfl Kp.true ?_
    refine Jp.skip 15 rfl (want_as rfl rfl rfl rfl) rfl rfl Kp.true ?_
    refine Jp.skip 16 rfl (want_as rfl rfl rfl rfl) rfl rfl Kp.true ?_
    refine Jp.y 17 rfl (want_all rfl) rfl rfl Kp.true (Y.pickT rfl rfl rfl) ?_
    refine Jp.y 18 rfl (want_all rfl) rfl rfl Kp.true (Y.move rfl rfl) ?_
    refine Jp.skip 19 rfl (want_as rfl rfl rfl rfl) rfl rfl Kp.true ?_
    refine Jp.skip 20 rfl (want_as rfl rfl rfl rfl) rfl rfl Kp.true ?_
    refine Jp.skip 21 rfl (want_as rfl rfl rfl rfl) rfl rfl Kp.true ?_
    refine Jp.skip 22 rfl (want_as rfl rfl rfl rfl) rfl rfl Kp.true ?_
    refine Jp.y 23 rfl (want_all rfl) rfl rfl Kp.true (Y.pickT rfl rfl rfl) ?_
    refine Jp.y 24 rfl (want_all rfl) rfl rfl Kp.true (Y.move rfl rfl) ?_
    refine Jp.skip 25 rfl (want_as rfl rfl rfl rfl) rfl rfl Kp.true ?_
    refine Jp.skip 26 rfl (want_as rfl rfl rfl rfl) rfl rfl Kp.true ?_
    refine Jp.skip 27 rfl (want_as rfl rfl rfl rfl) rfl rfl Kp.true ?_
    refine Jp.skip 28 rfl (want_as rfl rfl rfl rfl) rfl rfl Kp.true ?_
    refine Jp.y 29 rfl (want_all rfl) rfl rfl Kp.true (Y.pickT rfl rfl rfl) ?_
    refine Jp.y 30 rfl (want_all rfl) rfl rfl Kp.true (Y.move rfl rfl) ?_
    refine Jp.skip 31 rfl (want_as rfl rfl rfl rfl) rfl rfl Kp.true ?_
    refine Jp.skip 32 rfl (want_as rfl rfl rfl rfl) rfl rfl Kp.true ?_
    refine Jp.skip 33 rfl (want_as rfl rfl rfl rfl) rfl rfl Kp.true ?_
    refine Jp.skip 34 rfl (want_as rfl rfl rfl rfl) rfl rfl Kp.true ?_
    refine Jp.y 35 rfl (want_all rfl) rfl rfl Kp.true (Y.pickT rfl rfl rfl) ?_
    refine Jp.y 36 rfl (want_all rfl) rfl rfl Kp.true (Y.move rfl rfl) ?_
    refine Jp.skip 37 rfl (want_as rfl rfl rfl rfl) rfl rfl Kp.true ?_
    refine Jp.skip 38 rfl (want_as rfl rfl rfl rfl) rfl rfl Kp.true ?_
    refine Jp.skip 39 rfl (want_as rfl rfl rfl rfl) rfl rfl Kp.true ?_
    refine Jp.skip 40 rfl (want_as rfl rfl rfl rfl) rfl rfl Kp.true ?_
    refine Jp.y 41 rfl (want_all rfl) rfl rfl Kp.true (Y.pickT rfl rfl rfl) ?_
    refine Jp.done hK3 ?_
    refine Cd.condT rfl ?_
    refine Cd.seq fun K4 hK4 => ?_
    refine Cd.plain [(0, false)] rfl rfl ?_
    refine Jp.y 2 rfl (want_all rfl) rfl rfl Kp.true (Y.assign rfl rfl) ?_
    refine Jp.done hK4 ?_
    refine Cd.ret [] rfl (res1 rfl rfl) trivial ⟨rfl, congrArg Value.bool (good_n1 (by simp only [decide_eq_true_eq] at g12; show 16 < (xa.map str).length; rw [List.length_map]; omega)).symm, rfl⟩
  try simp only [decide_eq_false_iff_not, decide_eq_true_eq, Int.not_lt, Int.not_le, Bool.not_eq_false, Bool.not_eq_true, Bool.not_true, Bool.not_false, Bool.not_eq_true', Bool.not_eq_false', beq_eq_false_iff_ne, ne_eq, beq_iff_eq, bne_iff_ne, bne_eq_false_iff_eq, Classical.not_not] at g12
  refine Jp.y 13 rfl (want_as rfl rfl rfl rfl) rfl rfl Kp.true (by first | exact Y.fieldAddrP rfl rfl Try.underlying38 rfl Try.sizeOf23 (by decide) (show _ + 1 = _ from rfl) | exact Y.fieldAddr rfl rfl Try.underlying38 rfl Try.sizeOf23 (by decide)) ?_
  refine Jp.y 14 rfl (want_as rfl rfl rfl rfl) rfl rfl Kp.true (by first | exact Y.loadO 50 rfl Try.isAgg23 rfl rfl rfl | exact Y.loadO 50 rfl Try.isAgg23 rfl rfl rfl) ?_
  refine Jp.y 15 rfl (want_as rfl rfl rfl rfl) rfl rfl Kp.true (Y.lenslice rfl Try.underlying23 rfl) ?_
  refine Jp.y 16 rfl (want_as rfl rfl rfl rfl) rfl rfl Kp.true (Y.gtr rfl rfl rfl) ?_
  refine Jp.y 17 rfl (want_all rfl) rfl rfl Kp.true (Y.pickF rfl rfl rfl) ?_
  refine Jp.y 18 rfl (want_all rfl) rfl rfl Kp.true (Y.move rfl rfl) ?_
  refine Jp.split 18 rfl (fun g18 => ?_) (fun g18 => ?_)
  · skip
    refine Jp.skip 19 rfl (want_as rfl rfl rfl rfl) rfl rfl Kp.true ?_
    refine Jp.skip 20 rfl (want_as rfl rfl rfl rfl) rfl rfl Kp.true ?_
    refine Jp.skip 21 rfl (want_as rfl rfl rfl rfl) rfl rfl Kp.true ?_
    refine Jp.skip 22 rfl (want_as rfl rfl rfl rfl) rfl rfl Kp.true ?_
    refine Jp.y 23 rfl (want_all rfl) rfl rfl Kp.true (Y.pickT rfl rfl rfl) ?_
    refine Jp.y 24 rfl (want_all rfl) rfl rfl Kp.true (Y.move rfl rfl) ?_
    refine Jp.skip 25 rfl (want_as rfl rfl rfl rfl) rfl rfl Kp.true ?_
    refine Jp.skip 26 rfl (want_as rfl rfl rfl rfl) rfl rfl Kp.true ?_
    refine Jp.skip 27 rfl (want_as rfl rfl rfl rfl) rfl rfl Kp.true ?_
    refine Jp.skip 28 rfl (want_as rfl rfl rfl rfl) rfl rfl Kp.true ?_
    refine Jp.y 29 rfl (want_all rfl) rfl rfl Kp.true (Y.pickT rfl rfl rfl) ?_
    refine Jp.y 30 rfl (want_all rfl) rfl rfl Kp.true (Y.move rfl rfl) ?_
    refine Jp.skip 31 rfl (want_as rfl rfl rfl rfl) rfl rfl Kp.true ?_
    refine Jp.skip 32 rfl (want_as rfl rfl rfl rfl) rfl rfl Kp.true ?_
    refine Jp.skip 33 rfl (want_as rfl rfl rfl rfl) rfl rfl Kp.true ?_
    refine Jp.skip 34 rfl (want_as rfl rfl rfl rfl) rfl rfl Kp.true ?_
    refine Jp.y 35 rfl (want_all rfl) rfl rfl Kp.true (Y.pickT rfl rfl rfl) ?_
    refine Jp.y 36 rfl (want_all rfl) rfl rfl Kp.true (Y.move rfl rfl) ?_
    refine Jp.skip 37 rfl (want_as rfl rfl rfl rfl) rfl rfl Kp.true ?_
    refine Jp.skip 38 rfl (want_as rfl rfl rfl rfl) rfl rfl Kp.true ?_
    refine Jp.skip 39 rfl (want_as rfl rfl rfl rfl) rfl rfl Kp.true ?_
    refine Jp.skip 40 rfl (want_as rfl rfl rfl rfl) rfl rfl Kp.true ?_
    refine Jp.y 41 rfl (want_all rfl) rfl rfl Kp.true (Y.pickT rfl rfl rfl) ?_
    refine Jp.done hK3 ?_
    refine Cd.condT rfl ?_
    refine Cd.seq fun K5 hK5 => ?_
    refine Cd.plain [(0, false)] rfl rfl ?_
    refine Jp.y 2 rfl (want_all rfl) rfl rfl Kp.true (Y.assign rfl rfl) ?_
    refine Jp.done hK5 ?_
    refine Cd.ret [] rfl (res1 rfl rfl) trivial ⟨rfl, congrArg Value.bool (good_bad (.inr (.inr (.inr (.inl (by simp only [decide_eq_true_eq] at g18; show 4096 < xi.length; omega)))))).symm, rfl⟩
  try simp only [decide_eq_false_iff_not, decide_eq_true_eq, Int.not_lt, Int.not_le, Bool.not_eq_false, Bool.not_eq_true, Bool.not_true, Bool.not_false, Bool.not_eq_true', Bool.not_eq_false', beq_eq_false_iff_ne, ne_eq, beq_iff_eq, bne_iff_ne, bne_eq_false_iff_eq, Classical.not_not] at g18
  refine Jp.y 19 rfl (want_as rfl rfl rfl rfl) rfl rfl Kp.true (by first | exact Y.fieldAddrP rfl rfl Try.underlying38 rfl Try.sizeOf24 (by decide) (show _ + 2 = _ from rfl) | exact Y.fieldAddr rfl rfl Try.underlying38 rfl Try.sizeOf24 (by decide)) ?_
  refine Jp.y 20 rfl (want_as rfl rfl rfl rfl) rfl rfl Kp.true (by first | exact Y.loadO 50 rfl Try.isAgg24 rfl rfl rfl | exact Y.loadO 50 rfl Try.isAgg24 rfl rfl rfl) ?_
  refine Jp.y 21 rfl (want_as rfl rfl rfl rfl) rfl rfl Kp.true (Y.lenslice rfl Try.underlying24 rfl) ?_
  refine Jp.y 22 rfl (want_as rfl rfl rfl rfl) rfl rfl Kp.true (Y.gtr rfl rfl rfl) ?_
  refine Jp.y 23 rfl (want_all rfl) rfl rfl Kp.true (Y.pickF rfl rfl rfl) ?_
  refine Jp.y 24 rfl (want_all rfl) rfl rfl Kp.true (Y.move rfl rfl) ?_
  refine Jp.split 24 rfl (fun g24 => ?_) (fun g24 => ?_)
  · skip
    refine Jp.skip 25 rfl (want_as rfl rfl rfl rfl) rfl rfl Kp.true ?_
    refine Jp.skip 26 rfl (want_as rfl rfl rfl rfl) rfl rfl Kp.true ?_
    refine Jp.skip 27 rfl (want_as rfl rfl rfl rfl) rfl rfl Kp.true ?_
    refine Jp.skip 28 rfl (want_as rfl rfl rfl rfl) rfl rfl Kp.true ?_
    refine Jp.y 29 rfl (want_all rfl) rfl rfl Kp.true (Y.pickT rfl rfl rfl) ?_
    refine Jp.y 30 rfl (want_all rfl) rfl rfl Kp.true (Y.move rfl rfl) ?_
    refine Jp.skip 31 rfl (want_as rfl rfl rfl rfl) rfl rfl Kp.true ?_
    refine Jp.skip 32 rfl (want_as rfl rfl rfl rfl) rfl rfl Kp.true ?_
    refine Jp.skip 33 rfl (want_as rfl rfl rfl rfl) rfl rfl Kp.true ?_
    refine Jp.skip 34 rfl (want_as rfl rfl rfl rfl) rfl rfl Kp.true ?_
    refine Jp.y 35 rfl (want_all rfl) rfl rfl Kp.true (Y.pickT rfl rfl rfl) ?_
    refine Jp.y 36 rfl (want_all rfl) rfl rfl Kp.true (Y.move rfl rfl) ?_
    refine Jp.skip 37 rfl (want_as rfl rfl rfl rfl) rfl rfl Kp.true ?_
    refine Jp.skip 38 rfl (want_as rfl rfl rfl rfl) rfl rfl Kp.true ?_
    refine Jp.skip 39 rfl (want_as rfl rfl rfl rfl) rfl rfl Kp.true ?_
    refine Jp.skip 40 rfl (want_as rfl rfl rfl rfl) rfl rfl Kp.true ?_
    refine Jp.y 41 rfl (want_all rfl) rfl rfl Kp.true (Y.pickT rfl rfl rfl) ?_
    refine Jp.done hK3 ?_
    refine Cd.condT rfl ?_
    refine Cd.seq fun K6 hK6 => ?_
    refine Cd.plain [(0, false)] rfl rfl ?_
    refine Jp.y 2 rfl (want_all rfl) rfl rfl Kp.true (Y.assign rfl rfl) ?_
    refine Jp.done hK6 ?_
    refine Cd.ret [] rfl (res1 rfl rfl) trivial ⟨rfl, congrArg Value.bool (good_bad (.inr (.inl (by simp only [decide_eq_true_eq] at g24; show 64 < xs.length; omega)))).symm, rfl⟩
  try simp only [decide_eq_false_iff_not, decide_eq_true_eq, Int.not_lt, Int.not_le, Bool.not_eq_false, Bool.not_eq_true, Bool.not_true, Bool.not_false, Bool.not_eq_true', Bool.not_eq_false', beq_eq_false_iff_ne, ne_eq, beq_iff_eq, bne_iff_ne, bne_eq_false_iff_eq, Classical.not_not] at g24
  refine Jp.y 25 rfl (want_as rfl rfl rfl rfl) rfl rfl Kp.true (by first | exact Y.fieldAddrP rfl rfl Try.underlying38 rfl Try.sizeOf23 (by decide) (show _ + 3 = _ from rfl) | exact Y.fieldAddr rfl rfl Try.underlying38 rfl Try.sizeOf23 (by decide)) ?_
  refine Jp.y 26 rfl (want_as rfl rfl rfl rfl) rfl rfl Kp.true (by first | exact Y.loadO 50 rfl Try.isAgg23 rfl rfl rfl | exact Y.loadO 50 rfl Try.isAgg23 rfl rfl rfl) ?_
  refine Jp.y 27 rfl (want_as rfl rfl rfl rfl) rfl rfl Kp.true (Y.lenslice rfl Try.underlying23 rfl) ?_
  refine Jp.y 28 rfl (want_as rfl rfl rfl rfl) rfl rfl Kp.true (Y.gtr rfl rfl rfl) ?_
  refine Jp.y 29 rfl (want_all rfl) rfl rfl Kp.true (Y.pickF rfl rfl rfl) ?_
  refine Jp.y 30 rfl (want_all rfl) rfl rfl Kp.true (Y.move rfl rfl) ?_
  refine Jp.split 30 rfl (fun g30 => ?_) (fun g30 => ?_)
  · skip
    refine Jp.skip 31 rfl (want_as rfl rfl rfl rfl) rfl rfl Kp.true ?_
    refine Jp.skip 32 rfl (want_as rfl rfl rfl rfl) rfl rfl Kp.true ?_
    refine Jp.skip 33 rfl (want_as rfl rfl rfl rfl) rfl rfl Kp.true ?_
    refine Jp.skip 34 rfl (want_as rfl rfl rfl rfl) rfl rfl Kp.true ?_
    refine Jp.y 35 rfl (want_all rfl) rfl rfl Kp.true (Y.pickT rfl rfl rfl) ?_
    refine Jp.y 36 rfl (want_all rfl) rfl rfl Kp.true (Y.move rfl rfl) ?_
    refine Jp.skip 37 rfl (want_as rfl rfl rfl rfl) rfl rfl Kp.true ?_
    refine Jp.skip 38 rfl (want_as rfl rfl rfl rfl) rfl rfl Kp.true ?_
    refine Jp.skip 39 rfl (want_as rfl rfl rfl rfl) rfl rfl Kp.true ?_
    refine Jp.skip 40 rfl (want_as rfl rfl rfl rfl) rfl rfl Kp.true ?_
    refine Jp.y 41 rfl (want_all rfl) rfl rfl Kp.true (Y.pickT rfl rfl rfl) ?_
    refine Jp.done hK3 ?_
    refine Cd.condT rfl ?_
    refine Cd.seq fun K7 hK7 => ?_
    refine Cd.plain [(0, false)] rfl rfl ?_
    refine Jp.y 2 rfl (want_all rfl) rfl rfl Kp.true (Y.assign rfl rfl) ?_
    refine Jp.done hK7 ?_
    refine Cd.ret [] rfl (res1 rfl rfl) trivial ⟨rfl, congrArg Value.bool (good_bad (.inr (.inr (.inr (.inr (.inl (by simp only [decide_eq_true_eq] at g30; show 4096 < xr.length; omega))))))).symm, rfl⟩
  try simp only [decide_eq_false_iff_not, decide_eq_true_eq, Int.not_lt, Int.not_le, Bool.not_eq_false, Bool.not_eq_true, Bool.not_true, Bool.not_false, Bool.not_eq_true', Bool.not_eq_false', beq_eq_false_iff_ne, ne_eq, beq_iff_eq, bne_iff_ne, bne_eq_false_iff_eq, Classical.not_not] at g30
  refine Jp.y 31 rfl (want_as rfl rfl rfl rfl) rfl rfl Kp.true (by first | exact Y.fieldAddrP rfl rfl Try.underlying38 rfl Try.sizeOf25 (by decide) (show _ + 4 = _ from rfl) | exact Y.fieldAddr rfl rfl Try.underlying38 rfl Try.sizeOf25 (by decide)) ?_
  refine Jp.y 32 rfl (want_as rfl rfl rfl rfl) rfl rfl Kp.true (by first | exact Y.loadO 50 rfl Try.isAgg25 rfl rfl rfl | exact Y.loadO 50 rfl Try.isAgg25 rfl rfl rfl) ?_
  refine Jp.y 33 rfl (want_as rfl rfl rfl rfl) rfl rfl Kp.true (Y.lenslice rfl Try.underlying25 rfl) ?_
  refine Jp.y 34 rfl (want_as rfl rfl rfl rfl) rfl rfl Kp.true (Y.gtr rfl rfl rfl) ?_
  refine Jp.y 35 rfl (want_all rfl) rfl rfl Kp.true (Y.pickF rfl rfl rfl) ?_
  refine Jp.y 36 rfl (want_all rfl) rfl rfl Kp.true (Y.move rfl rfl) ?_
  refine Jp.split 36 rfl (fun g36 => ?_) (fun g36 => ?_)
  · skip
    refine Jp.skip 37 rfl (want_as rfl rfl rfl rfl) rfl rfl Kp.true ?_
    refine Jp.skip 38 rfl (want_as rfl rfl rfl rfl) rfl rfl Kp.true ?_
    refine Jp.skip 39 rfl (want_as rfl rfl rfl rfl) rfl rfl Kp.true ?_
    refine Jp.skip 40 rfl (want_as rfl rfl rfl rfl) rfl rfl Kp.true ?_
    refine Jp.y 41 rfl (want_all rfl) rfl rfl Kp.true (Y.pickT rfl rfl rfl) ?_
    refine Jp.done hK3 ?_
    refine Cd.condT rfl ?_
    refine Cd.seq fun K8 hK8 => ?_
    refine Cd.plain [(0, false)] rfl rfl ?_
    refine Jp.y 2 rfl (want_all rfl) rfl rfl Kp.true (Y.assign rfl rfl) ?_
    refine Jp.done hK8 ?_
    refine Cd.ret [] rfl (res1 rfl rfl) trivial ⟨rfl, congrArg Value.bool (good_bad (.inr (.inr (.inl (by simp only [decide_eq_true_eq] at g36; show 64 < xk.length; omega))))).symm, rfl⟩
  try simp only [decide_eq_false_iff_not, decide_eq_true_eq, Int.not_lt, Int.not_le, Bool.not_eq_false, Bool.not_eq_true, Bool.not_true, Bool.not_false, Bool.not_eq_true', Bool.not_eq_false', beq_eq_false_iff_ne, ne_eq, beq_iff_eq, bne_iff_ne, bne_eq_false_iff_eq, Classical.not_not] at g36
  refine Jp.y 37 rfl (want_as rfl rfl rfl rfl) rfl rfl Kp.true (by first | exact Y.fieldAddrP rfl rfl Try.underlying38 rfl Try.sizeOf36 (by decide) (show _ + 5 = _ from rfl) | exact Y.fieldAddr rfl rfl Try.underlying38 rfl Try.sizeOf36 (by decide)) ?_
  refine Jp.y 38 rfl (want_as rfl rfl rfl rfl) rfl rfl Kp.true (by first | exact Y.loadO 50 rfl Try.isAgg36 rfl rfl rfl | exact Y.loadO 50 rfl Try.isAgg36 rfl rfl rfl) ?_
  refine Jp.y 39 rfl (want_as rfl rfl rfl rfl) rfl rfl Kp.true (Y.lenslice rfl Try.underlying36 rfl) ?_
  refine Jp.y 40 rfl (want_as rfl rfl rfl rfl) rfl rfl Kp.true (Y.gtr rfl rfl rfl) ?_
  refine Jp.y 41 rfl (want_all rfl) rfl rfl Kp.true (Y.pickF rfl rfl rfl) ?_
  refine Jp.done hK3 ?_
  refine Cd.cond rfl (fun g41 => ?_) (fun g41 => ?_)
  · skip
    refine Cd.seq fun K9 hK9 => ?_
    refine Cd.plain [(0, false)] rfl rfl ?_
    refine Jp.y 2 rfl (want_all rfl) rfl rfl Kp.true (Y.assign rfl rfl) ?_
    refine Jp.done hK9 ?_
    refine Cd.ret [] rfl (res1 rfl rfl) trivial ⟨rfl, congrArg Value.bool (good_n6 (by simp only [decide_eq_true_eq] at g41; show 8 < (xf.map FileG.p).length; rw [List.length_map]; omega)).symm, rfl⟩
  try simp only [decide_eq_false_iff_not, decide_eq_true_eq, Int.not_lt, Int.not_le, Bool.not_eq_false, Bool.not_eq_true, Bool.not_true, Bool.not_false, Bool.not_eq_true', Bool.not_eq_false', beq_eq_false_iff_ne, ne_eq, beq_iff_eq, bne_iff_ne, bne_eq_false_iff_eq, Classical.not_not] at g41
  refine Cd.skip hK2 ?_
  refine Cd.seq fun K10 hK10 => ?_
  refine Cd.seq fun K11 hK11 => ?_
  refine Cd.plain [(0, false)] rfl rfl ?_
  refine Jp.y 3 rfl (want_all rfl) rfl rfl Kp.true (Y.assign rfl rfl) ?_
  refine Jp.done hK11 ?_
  refine Cd.block ?_
  refine Cd.loop (G := Nat) (fun k => k ≤ xa.length ∧ ∀ j x, j < k → xa[j]? = some x → goodArg (str x) = true) (fun k => xa.length - k) (fun _ => ρ) (fun k => [(1, .pointer (some ⟨b50, 0, none⟩)), (3, .int .i64 k)]) (fun _ => [(50, Pt b50 (.cells #[.slice Aa xa.length ca, .slice Ai xi.length ci, .slice As xs.length cs, .slice Ar xr.length cr, .slice Ac xk.length cc, .slice Af xf.length cf] 38))]) 0 ⟨Nat.zero_le _, fun j x h => by omega⟩ rfl ⟨rfl, rfl, trivial⟩ ⟨rfl, trivial⟩ (fun g KLa hok hLa => ?_)
  refine Cd.seq fun K12 hK12 => ?_
  refine Cd.seq fun K13 hK13 => ?_
  refine Cd.plain [(0, false), (1, false), (2, false), (3, false), (4, false)] rfl rfl ?_
  refine Jp.y 42 rfl (want_all rfl) rfl rfl Kp.true (Y.move rfl rfl) ?_
  refine Jp.y 43 rfl (want_all rfl) rfl rfl Kp.true (by first | exact Y.fieldAddrP rfl rfl Try.underlying38 rfl Try.sizeOf22 (by decide) (show _ + 0 = _ from rfl) | exact Y.fieldAddr rfl rfl Try.underlying38 rfl Try.sizeOf22 (by decide)) ?_
  refine Jp.y 44 rfl (want_all rfl) rfl rfl Kp.true (by first | exact Y.loadO 50 rfl Try.isAgg22 rfl rfl rfl | exact Y.loadO 50 rfl Try.isAgg22 rfl rfl rfl) ?_
  refine Jp.y 45 rfl (want_all rfl) rfl rfl Kp.true (Y.lenslice rfl Try.underlying22 rfl) ?_
  refine Jp.y 46 rfl (want_all rfl) rfl rfl Kp.true (Y.lss rfl rfl rfl) ?_
  refine Jp.done hK13 ?_
  refine Cd.cond rfl (fun ga => ?_) (fun ga => ?_)
  · simp only [decide_eq_true_eq] at ga
    obtain ⟨ok1, ok2⟩ := hok
    have hg : g < xa.length := by omega
    have hgx : xa[g]? = some xa[g] := by simp [hg]
    obtain ⟨ad, rfl⟩ := hr.args.some (show 0 < xa.length * 1 by omega)
    have hcell : cellH ρ (ad.add g) = some (.string xa[g]) := hr.args.cell (by simp [strsV, hg])
    refine Cd.skip hK12 ?_
    refine Cd.seq fun K14 hK14 => ?_
    refine Cd.block ?_
    refine Cd.seq fun K15 hK15 => ?_
    refine Cd.plain [(0, false), (1, false), (2, false), (3, false), (4, false), (5, false), (6, false), (7, false), (8, false), (9, false), (10, false), (11, false), (12, false), (13, false), (14, false)] rfl rfl ?_
    refine Jp.y 49 rfl (want_all rfl) rfl rfl Kp.true (by first | exact Y.fieldAddrP rfl rfl Try.underlying38 rfl Try.sizeOf22 (by decide) (show _ + 0 = _ from rfl) | exact Y.fieldAddr rfl rfl Try.underlying38 rfl Try.sizeOf22 (by decide)) ?_
    refine Jp.y 50 rfl (want_all rfl) rfl rfl Kp.true (by first | exact Y.loadO 50 rfl Try.isAgg22 rfl rfl rfl | exact Y.loadO 50 rfl Try.isAgg22 rfl rfl rfl | exact Y.loadR rfl Try.isAgg22 rfl hcell) ?_
    refine Jp.y 51 rfl (want_all rfl) rfl rfl Kp.true (Y.move rfl rfl) ?_
    refine Jp.y 52 rfl (want_all rfl) rfl rfl Kp.true (Y.indexAddr (q := g) rfl rfl rfl Try.underlying22 Try.sizeOf9 (by omega) (by omega) (by omega)) ?_
    refine Jp.y 53 rfl (want_all rfl) rfl rfl Kp.true (by first | exact Y.loadO 50 rfl Try.isAgg9 rfl rfl rfl | exact Y.loadO 50 rfl Try.isAgg9 rfl rfl rfl | exact Y.loadR rfl Try.isAgg9 rfl hcell) ?_
    refine Jp.y 54 rfl (want_all rfl) rfl rfl Kp.true (Y.lenstr rfl Try.underlying9 rfl) ?_
    refine Jp.y 55 rfl (want_all rfl) rfl rfl Kp.true (Y.gtr rfl rfl rfl) ?_
    refine Jp.y 56 rfl (want_all rfl) rfl rfl Kp.true (Y.move rfl rfl) ?_
    refine Jp.split 56 rfl (fun g56 => ?_) (fun g56 => ?_)
    · skip
      refine Jp.skip 57 rfl (want_as rfl rfl rfl rfl) rfl rfl Kp.true ?_
      refine Jp.skip 58 rfl (want_as rfl rfl rfl rfl) rfl rfl Kp.true ?_
      refine Jp.skip 59 rfl (want_as rfl rfl rfl rfl) rfl rfl Kp.true ?_
      refine Jp.skip 60 rfl (want_as rfl rfl rfl rfl) rfl rfl Kp.true ?_
      refine Jp.skip 61 rfl (want_as rfl rfl rfl rfl) rfl rfl Kp.true ?_
      refine Jp.skip 62 rfl (want_as rfl rfl rfl rfl) rfl rfl Kp.true ?_
      refine Jp.y 63 rfl (want_all rfl) rfl rfl Kp.true (Y.pickT rfl rfl rfl) ?_
      refine Jp.done hK15 ?_
      refine Cd.condT rfl ?_
      refine Cd.seq fun K16 hK16 => ?_
      refine Cd.plain [(0, false)] rfl rfl ?_
      refine Jp.y 2 rfl (want_all rfl) rfl rfl Kp.true (Y.assign rfl rfl) ?_
      refine Jp.done hK16 ?_
      refine Cd.ret [] rfl (res1 rfl rfl) trivial ⟨rfl, congrArg Value.bool (good_arg (k := g) (s := str xa[g]) (by show (xa.map str)[g]? = _; rw [List.getElem?_map, hgx]; rfl) (goodArg_long (by simpa using g56))).symm, rfl⟩
    try simp only [decide_eq_false_iff_not, decide_eq_true_eq, Int.not_lt, Int.not_le, Bool.not_eq_false, Bool.not_eq_true, Bool.not_true, Bool.not_false, Bool.not_eq_true', Bool.not_eq_false', beq_eq_false_iff_ne, ne_eq, beq_iff_eq, bne_iff_ne, bne_eq_false_iff_eq, Classical.not_not] at g56
    refine Jp.y 57 rfl (want_as rfl rfl rfl rfl) rfl rfl Kp.true (by first | exact Y.fieldAddrP rfl rfl Try.underlying38 rfl Try.sizeOf22 (by decide) (show _ + 0 = _ from rfl) | exact Y.fieldAddr rfl rfl Try.underlying38 rfl Try.sizeOf22 (by decide)) ?_
    refine Jp.y 58 rfl (want_as rfl rfl rfl rfl) rfl rfl Kp.true (by first | exact Y.loadO 50 rfl Try.isAgg22 rfl rfl rfl | exact Y.loadO 50 rfl Try.isAgg22 rfl rfl rfl | exact Y.loadR rfl Try.isAgg22 rfl hcell) ?_
    refine Jp.y 59 rfl (want_as rfl rfl rfl rfl) rfl rfl Kp.true (Y.move rfl rfl) ?_
    refine Jp.y 60 rfl (want_as rfl rfl rfl rfl) rfl rfl Kp.true (Y.indexAddr (q := g) rfl rfl rfl Try.underlying22 Try.sizeOf9 (by omega) (by omega) (by omega)) ?_
    refine Jp.y 61 rfl (want_as rfl rfl rfl rfl) rfl rfl Kp.true (by first | exact Y.loadO 50 rfl Try.isAgg9 rfl rfl rfl | exact Y.loadO 50 rfl Try.isAgg9 rfl rfl rfl | exact Y.loadR rfl Try.isAgg9 rfl hcell) ?_
    refine Jp.call [] [] (f48_spec _ (by omega)) 62 rfl (want_as rfl rfl rfl rfl) rfl rfl (Runs.fn rfl Try.call48 rfl) (by decide) (by decide) rfl trivial ?_
    rintro v1 ρ1 L1 ⟨rfl, rfl, rfl⟩
    refine ⟨rfl, fun hle1 => ⟨Kp.true, ?_⟩⟩
    refine Jp.y 63 rfl (want_all rfl) rfl rfl Kp.true (Y.pickF rfl rfl rfl) ?_
    refine Jp.done hK15 ?_
    refine Cd.cond rfl (fun g63 => ?_) (fun g63 => ?_)
    · skip
      refine Cd.seq fun K17 hK17 => ?_
      refine Cd.plain [(0, false)] rfl rfl ?_
      refine Jp.y 2 rfl (want_all rfl) rfl rfl Kp.true (Y.assign rfl rfl) ?_
      refine Jp.done hK17 ?_
      refine Cd.ret [] rfl (res1 rfl rfl) trivial ⟨rfl, congrArg Value.bool (good_arg (k := g) (s := str xa[g]) (by show (xa.map str)[g]? = _; rw [List.getElem?_map, hgx]; rfl) (goodArg_not g63)).symm, rfl⟩
    try simp only [decide_eq_false_iff_not, decide_eq_true_eq, Int.not_lt, Int.not_le, Bool.not_eq_false, Bool.not_eq_true, Bool.not_true, Bool.not_false, Bool.not_eq_true', Bool.not_eq_false', beq_eq_false_iff_ne, ne_eq, beq_iff_eq, bne_iff_ne, bne_eq_false_iff_eq, Classical.not_not] at g63
    refine Cd.over rfl hK14 ?_
    refine Cd.plain [(0, false), (1, false), (2, false)] rfl rfl ?_
    refine Jp.y 47 rfl (want_all rfl) rfl rfl Kp.true (Y.move rfl rfl) ?_
    refine Jp.y 48 rfl (want_all rfl) rfl rfl Kp.true (Y.add_ rfl rfl rfl (by first | exact wrap_i64 (by omega) (by omega) | rfl)) ?_
    refine Jp.y 3 rfl (want_all rfl) rfl rfl Kp.true (Y.assign rfl rfl) ?_
    refine Jp.again hLa (g + 1) ⟨by omega, fun j x hj hx => ?_⟩ (by omega) rfl ⟨rfl, rfl, trivial⟩ ⟨rfl, trivial⟩
    by_cases hjg : j < g
    · exact ok2 j x hjg hx
    · have : j = g := by omega
      subst this
      rw [hgx] at hx
      injection hx with hx
      subst hx
      exact goodArg_of g56 g63
  · simp only [decide_eq_false_iff_not] at ga
    obtain ⟨ok1, ok2⟩ := hok
    have hA : goodArgs (xa.map str) = true := by rw [← goodArgs_all ok2 (by omega)]; exact decide_eq_true (by omega)
    clear ok1 ok2
    refine Cd.exit rfl hK10 ?_
    refine Cd.seq fun K18 hK18 => ?_
    refine Cd.seq fun K19 hK19 => ?_
    refine Cd.plain [(0, false)] rfl rfl ?_
    refine Jp.y 4 rfl (want_all rfl) rfl rfl Kp.true (Y.assign rfl rfl) ?_
    refine Jp.done hK19 ?_
    refine Cd.block ?_
    refine Cd.loop (G := Nat) (fun k => k ≤ xs.length ∧ ∀ j x, j < k → xs[j]? = some x → goodShort x = true) (fun k => xs.length - k) (fun _ => ρ) (fun k => [(1, .pointer (some ⟨b50, 0, none⟩)), (4, .int .i64 k)]) (fun _ => [(50, Pt b50 (.cells #[.slice Aa xa.length ca, .slice Ai xi.length ci, .slice As xs.length cs, .slice Ar xr.length cr, .slice Ac xk.length cc, .slice Af xf.length cf] 38))]) 0 ⟨Nat.zero_le _, fun j x h => by omega⟩ rfl ⟨rfl, rfl, trivial⟩ ⟨rfl, trivial⟩ (fun g KLs hok hLs => ?_)
    refine Cd.seq fun K20 hK20 => ?_
    refine Cd.seq fun K21 hK21 => ?_
    refine Cd.plain [(0, false), (1, false), (2, false), (3, false), (4, false)] rfl rfl ?_
    refine Jp.y 64 rfl (want_all rfl) rfl rfl Kp.true (Y.move rfl rfl) ?_
    refine Jp.y 65 rfl (want_all rfl) rfl rfl Kp.true (by first | exact Y.fieldAddrP rfl rfl Try.underlying38 rfl Try.sizeOf24 (by decide) (show _ + 2 = _ from rfl) | exact Y.fieldAddr rfl rfl Try.underlying38 rfl Try.sizeOf24 (by decide)) ?_
    refine Jp.y 66 rfl (want_all rfl) rfl rfl Kp.true (by first | exact Y.loadO 50 rfl Try.isAgg24 rfl rfl rfl | exact Y.loadO 50 rfl Try.isAgg24 rfl rfl rfl | exact Y.loadR rfl Try.isAgg24 rfl hcell) ?_
    refine Jp.y 67 rfl (want_all rfl) rfl rfl Kp.true (Y.lenslice rfl Try.underlying24 rfl) ?_
    refine Jp.y 68 rfl (want_all rfl) rfl rfl Kp.true (Y.lss rfl rfl rfl) ?_
    refine Jp.done hK21 ?_
    refine Cd.cond rfl (fun ga => ?_) (fun ga => ?_)
    · simp only [decide_eq_true_eq] at ga
      obtain ⟨ok1, ok2⟩ := hok
      have hg : g < xs.length := by omega
      have hgx : xs[g]? = some xs[g] := by simp [hg]
      obtain ⟨ad, rfl⟩ := hr.short.some (show 0 < xs.length * 1 by omega)
      have hcell : cellH ρ (ad.add g) = some (.int .i64 xs[g]) := hr.short.cell (by simp [intsV, hg])
      refine Cd.skip hK20 ?_
      refine Cd.seq fun K22 hK22 => ?_
      refine Cd.block ?_
      refine Cd.seq fun K23 hK23 => ?_
      refine Cd.plain [(0, false), (1, false), (2, false), (3, false), (4, false), (5, false), (6, false), (7, false), (8, false), (9, false), (10, false), (11, false), (12, false), (13, false)] rfl rfl ?_
      refine Jp.y 71 rfl (want_all rfl) rfl rfl Kp.true (by first | exact Y.fieldAddrP rfl rfl Try.underlying38 rfl Try.sizeOf24 (by decide) (show _ + 2 = _ from rfl) | exact Y.fieldAddr rfl rfl Try.underlying38 rfl Try.sizeOf24 (by decide)) ?_
      refine Jp.y 72 rfl (want_all rfl) rfl rfl Kp.true (by first | exact Y.loadO 50 rfl Try.isAgg24 rfl rfl rfl | exact Y.loadO 50 rfl Try.isAgg24 rfl rfl rfl | exact Y.loadR rfl Try.isAgg24 rfl hcell) ?_
      refine Jp.y 73 rfl (want_all rfl) rfl rfl Kp.true (Y.move rfl rfl) ?_
      refine Jp.y 74 rfl (want_all rfl) rfl rfl Kp.true (Y.indexAddr (q := g) rfl rfl rfl Try.underlying24 Try.sizeOf3 (by omega) (by omega) (by omega)) ?_
      refine Jp.y 75 rfl (want_all rfl) rfl rfl Kp.true (by first | exact Y.loadO 50 rfl Try.isAgg3 rfl rfl rfl | exact Y.loadO 50 rfl Try.isAgg3 rfl rfl rfl | exact Y.loadR rfl Try.isAgg3 rfl hcell) ?_
      refine Jp.y 76 rfl (want_all rfl) rfl rfl Kp.true (Y.lss rfl rfl rfl) ?_
      refine Jp.y 77 rfl (want_all rfl) rfl rfl Kp.true (Y.move rfl rfl) ?_
      refine Jp.split 77 rfl (fun g77 => ?_) (fun g77 => ?_)
      · skip
        refine Jp.skip 78 rfl (want_as rfl rfl rfl rfl) rfl rfl Kp.true ?_
        refine Jp.skip 79 rfl (want_as rfl rfl rfl rfl) rfl rfl Kp.true ?_
        refine Jp.skip 80 rfl (want_as rfl rfl rfl rfl) rfl rfl Kp.true ?_
        refine Jp.skip 81 rfl (want_as rfl rfl rfl rfl) rfl rfl Kp.true ?_
        refine Jp.skip 82 rfl (want_as rfl rfl rfl rfl) rfl rfl Kp.true ?_
        refine Jp.skip 83 rfl (want_as rfl rfl rfl rfl) rfl rfl Kp.true ?_
        refine Jp.y 84 rfl (want_all rfl) rfl rfl Kp.true (Y.pickT rfl rfl rfl) ?_
        refine Jp.done hK23 ?_
        refine Cd.condT rfl ?_
        refine Cd.seq fun K24 hK24 => ?_
        refine Cd.plain [(0, false)] rfl rfl ?_
        refine Jp.y 2 rfl (want_all rfl) rfl rfl Kp.true (Y.assign rfl rfl) ?_
        refine Jp.done hK24 ?_
        refine Cd.ret [] rfl (res1 rfl rfl) trivial ⟨rfl, congrArg Value.bool (good_short (k := g) hgx (by simp only [decide_eq_true_eq] at g77; simp only [goodShort, Bool.and_eq_false_iff, decide_eq_false_iff_not]; omega)).symm, rfl⟩
      try simp only [decide_eq_false_iff_not, decide_eq_true_eq, Int.not_lt, Int.not_le, Bool.not_eq_false, Bool.not_eq_true, Bool.not_true, Bool.not_false, Bool.not_eq_true', Bool.not_eq_false', beq_eq_false_iff_ne, ne_eq, beq_iff_eq, bne_iff_ne, bne_eq_false_iff_eq, Classical.not_not] at g77
      refine Jp.y 78 rfl (want_as rfl rfl rfl rfl) rfl rfl Kp.true (by first | exact Y.fieldAddrP rfl rfl Try.underlying38 rfl Try.sizeOf24 (by decide) (show _ + 2 = _ from rfl) | exact Y.fieldAddr rfl rfl Try.underlying38 rfl Try.sizeOf24 (by decide)) ?_
      refine Jp.y 79 rfl (want_as rfl rfl rfl rfl) rfl rfl Kp.true (by first | exact Y.loadO 50 rfl Try.isAgg24 rfl rfl rfl | exact Y.loadO 50 rfl Try.isAgg24 rfl rfl rfl | exact Y.loadR rfl Try.isAgg24 rfl hcell) ?_
      refine Jp.y 80 rfl (want_as rfl rfl rfl rfl) rfl rfl Kp.true (Y.move rfl rfl) ?_
      refine Jp.y 81 rfl (want_as rfl rfl rfl rfl) rfl rfl Kp.true (Y.indexAddr (q := g) rfl rfl rfl Try.underlying24 Try.sizeOf3 (by omega) (by omega) (by omega)) ?_
      refine Jp.y 82 rfl (want_as rfl rfl rfl rfl) rfl rfl Kp.true (by first | exact Y.loadO 50 rfl Try.isAgg3 rfl rfl rfl | exact Y.loadO 50 rfl Try.isAgg3 rfl rfl rfl | exact Y.loadR rfl Try.isAgg3 rfl hcell) ?_
      refine Jp.y 83 rfl (want_as rfl rfl rfl rfl) rfl rfl Kp.true (Y.gtr rfl rfl rfl) ?_
      refine Jp.y 84 rfl (want_all rfl) rfl rfl Kp.true (Y.pickF rfl rfl rfl) ?_
      refine Jp.done hK23 ?_
      refine Cd.cond rfl (fun g84 => ?_) (fun g84 => ?_)
      · skip
        refine Cd.seq fun K25 hK25 => ?_
        refine Cd.plain [(0, false)] rfl rfl ?_
        refine Jp.y 2 rfl (want_all rfl) rfl rfl Kp.true (Y.assign rfl rfl) ?_
        refine Jp.done hK25 ?_
        refine Cd.ret [] rfl (res1 rfl rfl) trivial ⟨rfl, congrArg Value.bool (good_short (k := g) hgx (by simp only [decide_eq_true_eq] at g84; simp only [goodShort, Bool.and_eq_false_iff, decide_eq_false_iff_not]; omega)).symm, rfl⟩
      try simp only [decide_eq_false_iff_not, decide_eq_true_eq, Int.not_lt, Int.not_le, Bool.not_eq_false, Bool.not_eq_true, Bool.not_true, Bool.not_false, Bool.not_eq_true', Bool.not_eq_false', beq_eq_false_iff_ne, ne_eq, beq_iff_eq, bne_iff_ne, bne_eq_false_iff_eq, Classical.not_not] at g84
      refine Cd.over rfl hK22 ?_
      refine Cd.plain [(0, false), (1, false), (2, false)] rfl rfl ?_
      refine Jp.y 69 rfl (want_all rfl) rfl rfl Kp.true (Y.move rfl rfl) ?_
      refine Jp.y 70 rfl (want_all rfl) rfl rfl Kp.true (Y.add_ rfl rfl rfl (by first | exact wrap_i64 (by omega) (by omega) | rfl)) ?_
      refine Jp.y 4 rfl (want_all rfl) rfl rfl Kp.true (Y.assign rfl rfl) ?_
      refine Jp.again hLs (g + 1) ⟨by omega, fun j x hj hx => ?_⟩ (by omega) rfl ⟨rfl, rfl, trivial⟩ ⟨rfl, trivial⟩
      by_cases hjg : j < g
      · exact ok2 j x hjg hx
      · have : j = g := by omega
        subst this
        rw [hgx] at hx
        injection hx with hx
        subst hx
        simp only [goodShort, Bool.and_eq_true, decide_eq_true_eq]; omega
    · simp only [decide_eq_false_iff_not] at ga
      obtain ⟨ok1, ok2⟩ := hok
      have hS : xs.all goodShort = true := out_all ok2 (by omega)
      clear ok1 ok2
      refine Cd.exit rfl hK18 ?_
      refine Cd.seq fun K26 hK26 => ?_
      refine Cd.seq fun K27 hK27 => ?_
      refine Cd.plain [(0, false)] rfl rfl ?_
      refine Jp.y 5 rfl (want_all rfl) rfl rfl Kp.true (Y.assign rfl rfl) ?_
      refine Jp.done hK27 ?_
      refine Cd.block ?_
      refine Cd.loop (G := Nat) (fun k => k ≤ xf.length ∧ ∀ j, j < k → okAt (xf.map FileG.p) j = true) (fun k => xf.length - k) (fun _ => ρ) (fun k => [(1, .pointer (some ⟨b50, 0, none⟩)), (5, .int .i64 k)]) (fun _ => [(50, Pt b50 (.cells #[.slice Aa xa.length ca, .slice Ai xi.length ci, .slice As xs.length cs, .slice Ar xr.length cr, .slice Ac xk.length cc, .slice Af xf.length cf] 38))]) 0 ⟨Nat.zero_le _, fun j h => by omega⟩ rfl ⟨rfl, rfl, trivial⟩ ⟨rfl, trivial⟩ (fun g KLf hok hLf => ?_)
      refine Cd.seq fun K28 hK28 => ?_
      refine Cd.seq fun K29 hK29 => ?_
      refine Cd.plain [(0, false), (1, false), (2, false), (3, false), (4, false)] rfl rfl ?_
      refine Jp.y 85 rfl (want_all rfl) rfl rfl Kp.true (Y.move rfl rfl) ?_
      refine Jp.y 86 rfl (want_all rfl) rfl rfl Kp.true (by first | exact Y.fieldAddrP rfl rfl Try.underlying38 rfl Try.sizeOf36 (by decide) (show _ + 5 = _ from rfl) | exact Y.fieldAddr rfl rfl Try.underlying38 rfl Try.sizeOf36 (by decide)) ?_
      refine Jp.y 87 rfl (want_all rfl) rfl rfl Kp.true (by first | exact Y.loadO 50 rfl Try.isAgg36 rfl rfl rfl | exact Y.loadO 50 rfl Try.isAgg36 rfl rfl rfl | exact Y.loadR rfl Try.isAgg36 rfl hcell) ?_
      refine Jp.y 88 rfl (want_all rfl) rfl rfl Kp.true (Y.lenslice rfl Try.underlying36 rfl) ?_
      refine Jp.y 89 rfl (want_all rfl) rfl rfl Kp.true (Y.lss rfl rfl rfl) ?_
      refine Jp.done hK29 ?_
      refine Cd.cond rfl (fun ga => ?_) (fun ga => ?_)
      · simp only [decide_eq_true_eq] at ga
        obtain ⟨ok1, ok2⟩ := hok
        have hg : g < xf.length := by omega
        have hgx : xf[g]? = some xf[g] := by simp [hg]
        obtain ⟨ad, rfl⟩ := hr.files.1.some (show 0 < xf.length * 2 by omega)
        refine Cd.skip hK28 ?_
        refine Cd.seq fun K30 hK30 => ?_
        refine Cd.block ?_
        refine Cd.seq fun K31 hK31 => ?_
        refine Cd.plain [(0, false), (1, false), (2, false), (3, false), (4, false), (5, false), (6, false)] rfl rfl ?_
        refine Jp.y 92 rfl (want_all rfl) rfl rfl Kp.true (by first | exact Y.fieldAddrP rfl rfl Try.underlying38 rfl Try.sizeOf36 (by decide) (show _ + 5 = _ from rfl) | exact Y.fieldAddr rfl rfl Try.underlying38 rfl Try.sizeOf36 (by decide)) ?_
        refine Jp.y 93 rfl (want_all rfl) rfl rfl Kp.true (by first | exact Y.loadO 50 rfl Try.isAgg36 rfl rfl rfl | exact Y.loadO 50 rfl Try.isAgg36 rfl rfl rfl | exact Y.loadR rfl Try.isAgg36 rfl hcell) ?_
        refine Jp.y 94 rfl (want_all rfl) rfl rfl Kp.true (Y.move rfl rfl) ?_
        refine Jp.y 95 rfl (want_all rfl) rfl rfl Kp.true (Y.indexAddr (q := g * 2) rfl rfl rfl Try.underlying36 Try.sizeOf75 (by omega) (by omega) (by omega)) ?_
        refine Jp.y 96 rfl (want_all rfl) rfl rfl Kp.true (Y.loadAggR xf[g].cells rfl Try.isAgg75 Try.sizeOf75 rfl rfl (hr.files.at rfl hgx)) ?_
        refine Jp.alloc 51 6 rfl (want_all rfl) rfl rfl rfl Try.zeroValue75 fun b51 => ⟨Kp.true, ?_⟩
        first | refine Jp.storeAgg 50 rfl (want_all rfl) rfl rfl Try.sizeOf75 rfl rfl rfl rfl rfl rfl (fun k _ _ => noFr0 k) Kp.true ?_ | refine Jp.storeAgg 50 rfl (want_all rfl) rfl rfl Try.sizeOf75 rfl rfl rfl rfl rfl rfl (fun k _ _ => noFr0 k) Kp.true ?_ | refine Jp.storeAgg 51 rfl (want_all rfl) rfl rfl Try.sizeOf75 rfl rfl rfl rfl rfl rfl (fun k _ _ => noFr0 k) Kp.true ?_
        refine Jp.done hK31 ?_
        refine Cd.seq fun K32 hK32 => ?_
        refine Cd.seq fun K33 hK33 => ?_
        refine Cd.plain [(0, false), (1, false), (2, false), (3, false), (4, false), (5, false), (6, false), (7, false), (8, false), (9, false), (10, false), (11, false), (12, false), (13, false), (14, false), (15, false), (16, false), (17, false), (18, false), (19, false), (20, false)] rfl rfl ?_
        refine Jp.y 97 rfl (want_all rfl) rfl rfl Kp.true (by first | exact Y.fieldAddrP rfl rfl Try.underlying75 rfl Try.sizeOf9 (by decide) (show _ + 0 = _ from rfl) | exact Y.fieldAddr rfl rfl Try.underlying75 rfl Try.sizeOf9 (by decide)) ?_
        refine Jp.y 98 rfl (want_all rfl) rfl rfl Kp.true (by first | exact Y.loadO 50 rfl Try.isAgg9 rfl rfl rfl | exact Y.loadO 50 rfl Try.isAgg9 rfl rfl rfl | exact Y.loadO 51 rfl Try.isAgg9 rfl rfl rfl | exact Y.loadR rfl Try.isAgg9 rfl hcell) ?_
        refine Jp.y 99 rfl (want_all rfl) rfl rfl Kp.true (Y.lenstr rfl Try.underlying9 rfl) ?_
        refine Jp.y 100 rfl (want_all rfl) rfl rfl Kp.true (Y.lss rfl rfl rfl) ?_
        refine Jp.y 101 rfl (want_all rfl) rfl rfl Kp.true (Y.move rfl rfl) ?_
        refine Jp.split 101 rfl (fun g101 => ?_) (fun g101 => ?_)
        · skip
          refine Jp.skip 102 rfl (want_as rfl rfl rfl rfl) rfl rfl Kp.true ?_
          refine Jp.skip 103 rfl (want_as rfl rfl rfl rfl) rfl rfl Kp.true ?_
          refine Jp.skip 104 rfl (want_as rfl rfl rfl rfl) rfl rfl Kp.true ?_
          refine Jp.skip 105 rfl (want_as rfl rfl rfl rfl) rfl rfl Kp.true ?_
          refine Jp.y 106 rfl (want_all rfl) rfl rfl Kp.true (Y.pickT rfl rfl rfl) ?_
          refine Jp.y 107 rfl (want_all rfl) rfl rfl Kp.true (Y.move rfl rfl) ?_
          refine Jp.skip 108 rfl (want_as rfl rfl rfl rfl) rfl rfl Kp.true ?_
          refine Jp.skip 109 rfl (want_as rfl rfl rfl rfl) rfl rfl Kp.true ?_
          refine Jp.skip 110 rfl (want_as rfl rfl rfl rfl) rfl rfl Kp.true ?_
          refine Jp.y 111 rfl (want_all rfl) rfl rfl Kp.true (Y.pickT rfl rfl rfl) ?_
          refine Jp.y 112 rfl (want_all rfl) rfl rfl Kp.true (Y.move rfl rfl) ?_
          refine Jp.skip 113 rfl (want_as rfl rfl rfl rfl) rfl rfl Kp.true ?_
          refine Jp.skip 114 rfl (want_as rfl rfl rfl rfl) rfl rfl Kp.true ?_
          refine Jp.skip 115 rfl (want_as rfl rfl rfl rfl) rfl rfl Kp.true ?_
          refine Jp.skip 116 rfl (want_as rfl rfl rfl rfl) rfl rfl Kp.true ?_
          refine Jp.y 117 rfl (want_all rfl) rfl rfl Kp.true (Y.pickT rfl rfl rfl) ?_
          refine Jp.done hK33 ?_
          refine Cd.condT rfl ?_
          refine Cd.seq fun K34 hK34 => ?_
          refine Cd.plain [(0, false)] rfl rfl ?_
          refine Jp.y 2 rfl (want_all rfl) rfl rfl Kp.true (Y.assign rfl rfl) ?_
          refine Jp.done hK34 ?_
          refine Cd.ret [] rfl (res1 rfl rfl) trivial ⟨rfl, congrArg Value.bool (good_file (k := g) (by show g < (xf.map FileG.p).length; simpa using hg) (by show okAt (xf.map FileG.p) g = false; rw [okAt_eq hg, goodFile_short (by simpa using g101)]; rfl)).symm, rfl⟩
        try simp only [decide_eq_false_iff_not, decide_eq_true_eq, Int.not_lt, Int.not_le, Bool.not_eq_false, Bool.not_eq_true, Bool.not_true, Bool.not_false, Bool.not_eq_true', Bool.not_eq_false', beq_eq_false_iff_ne, ne_eq, beq_iff_eq, bne_iff_ne, bne_eq_false_iff_eq, Classical.not_not] at g101
        refine Jp.y 102 rfl (want_as rfl rfl rfl rfl) rfl rfl Kp.true (by first | exact Y.fieldAddrP rfl rfl Try.underlying75 rfl Try.sizeOf9 (by decide) (show _ + 0 = _ from rfl) | exact Y.fieldAddr rfl rfl Try.underlying75 rfl Try.sizeOf9 (by decide)) ?_
        refine Jp.y 103 rfl (want_as rfl rfl rfl rfl) rfl rfl Kp.true (by first | exact Y.loadO 50 rfl Try.isAgg9 rfl rfl rfl | exact Y.loadO 50 rfl Try.isAgg9 rfl rfl rfl | exact Y.loadO 51 rfl Try.isAgg9 rfl rfl rfl | exact Y.loadR rfl Try.isAgg9 rfl hcell) ?_
        refine Jp.y 104 rfl (want_as rfl rfl rfl rfl) rfl rfl Kp.true (Y.lenstr rfl Try.underlying9 rfl) ?_
        refine Jp.y 105 rfl (want_as rfl rfl rfl rfl) rfl rfl Kp.true (Y.gtr rfl rfl rfl) ?_
        refine Jp.y 106 rfl (want_all rfl) rfl rfl Kp.true (Y.pickF rfl rfl rfl) ?_
        refine Jp.y 107 rfl (want_all rfl) rfl rfl Kp.true (Y.move rfl rfl) ?_
        refine Jp.split 107 rfl (fun g107 => ?_) (fun g107 => ?_)
        · skip
          refine Jp.skip 108 rfl (want_as rfl rfl rfl rfl) rfl rfl Kp.true ?_
          refine Jp.skip 109 rfl (want_as rfl rfl rfl rfl) rfl rfl Kp.true ?_
          refine Jp.skip 110 rfl (want_as rfl rfl rfl rfl) rfl rfl Kp.true ?_
          refine Jp.y 111 rfl (want_all rfl) rfl rfl Kp.true (Y.pickT rfl rfl rfl) ?_
          refine Jp.y 112 rfl (want_all rfl) rfl rfl Kp.true (Y.move rfl rfl) ?_
          refine Jp.skip 113 rfl (want_as rfl rfl rfl rfl) rfl rfl Kp.true ?_
          refine Jp.skip 114 rfl (want_as rfl rfl rfl rfl) rfl rfl Kp.true ?_
          refine Jp.skip 115 rfl (want_as rfl rfl rfl rfl) rfl rfl Kp.true ?_
          refine Jp.skip 116 rfl (want_as rfl rfl rfl rfl) rfl rfl Kp.true ?_
          refine Jp.y 117 rfl (want_all rfl) rfl rfl Kp.true (Y.pickT rfl rfl rfl) ?_
          refine Jp.done hK33 ?_
          refine Cd.condT rfl ?_
          refine Cd.seq fun K35 hK35 => ?_
          refine Cd.plain [(0, false)] rfl rfl ?_
          refine Jp.y 2 rfl (want_all rfl) rfl rfl Kp.true (Y.assign rfl rfl) ?_
          refine Jp.done hK35 ?_
          refine Cd.ret [] rfl (res1 rfl rfl) trivial ⟨rfl, congrArg Value.bool (good_file (k := g) (by show g < (xf.map FileG.p).length; simpa using hg) (by show okAt (xf.map FileG.p) g = false; rw [okAt_eq hg, goodFile_long (by simpa using g107)]; rfl)).symm, rfl⟩
        try simp only [decide_eq_false_iff_not, decide_eq_true_eq, Int.not_lt, Int.not_le, Bool.not_eq_false, Bool.not_eq_true, Bool.not_true, Bool.not_false, Bool.not_eq_true', Bool.not_eq_false', beq_eq_false_iff_ne, ne_eq, beq_iff_eq, bne_iff_ne, bne_eq_false_iff_eq, Classical.not_not] at g107
        refine Jp.y 108 rfl (want_as rfl rfl rfl rfl) rfl rfl Kp.true (by first | exact Y.fieldAddrP rfl rfl Try.underlying75 rfl Try.sizeOf9 (by decide) (show _ + 0 = _ from rfl) | exact Y.fieldAddr rfl rfl Try.underlying75 rfl Try.sizeOf9 (by decide)) ?_
        refine Jp.y 109 rfl (want_as rfl rfl rfl rfl) rfl rfl Kp.true (by first | exact Y.loadO 50 rfl Try.isAgg9 rfl rfl rfl | exact Y.loadO 50 rfl Try.isAgg9 rfl rfl rfl | exact Y.loadO 51 rfl Try.isAgg9 rfl rfl rfl | exact Y.loadR rfl Try.isAgg9 rfl hcell) ?_
        refine Jp.call [] [] (f48_spec _ (by omega)) 110 rfl (want_as rfl rfl rfl rfl) rfl rfl (Runs.fn rfl Try.call48 rfl) (by decide) (by decide) rfl trivial ?_
        rintro v1 ρ1 L1 ⟨rfl, rfl, rfl⟩
        refine ⟨rfl, fun hle1 => ⟨Kp.true, ?_⟩⟩
        refine Jp.y 111 rfl (want_all rfl) rfl rfl Kp.true (Y.pickF rfl rfl rfl) ?_
        refine Jp.y 112 rfl (want_all rfl) rfl rfl Kp.true (Y.move rfl rfl) ?_
        refine Jp.split 112 rfl (fun g112 => ?_) (fun g112 => ?_)
        · skip
          refine Jp.skip 113 rfl (want_as rfl rfl rfl rfl) rfl rfl Kp.true ?_
          refine Jp.skip 114 rfl (want_as rfl rfl rfl rfl) rfl rfl Kp.true ?_
          refine Jp.skip 115 rfl (want_as rfl rfl rfl rfl) rfl rfl Kp.true ?_
          refine Jp.skip 116 rfl (want_as rfl rfl rfl rfl) rfl rfl Kp.true ?_
          refine Jp.y 117 rfl (want_all rfl) rfl rfl Kp.true (Y.pickT rfl rfl rfl) ?_
          refine Jp.done hK33 ?_
          refine Cd.condT rfl ?_
          refine Cd.seq fun K36 hK36 => ?_
          refine Cd.plain [(0, false)] rfl rfl ?_
          refine Jp.y 2 rfl (want_all rfl) rfl rfl Kp.true (Y.assign rfl rfl) ?_
          refine Jp.done hK36 ?_
          refine Cd.ret [] rfl (res1 rfl rfl) trivial ⟨rfl, congrArg Value.bool (good_file (k := g) (by show g < (xf.map FileG.p).length; simpa using hg) (by show okAt (xf.map FileG.p) g = false; rw [okAt_eq hg, goodFile_nul' g112]; rfl)).symm, rfl⟩
        try simp only [decide_eq_false_iff_not, decide_eq_true_eq, Int.not_lt, Int.not_le, Bool.not_eq_false, Bool.not_eq_true, Bool.not_true, Bool.not_false, Bool.not_eq_true', Bool.not_eq_false', beq_eq_false_iff_ne, ne_eq, beq_iff_eq, bne_iff_ne, bne_eq_false_iff_eq, Classical.not_not] at g112
        refine Jp.y 113 rfl (want_as rfl rfl rfl rfl) rfl rfl Kp.true (by first | exact Y.fieldAddrP rfl rfl Try.underlying75 rfl Try.sizeOf23 (by decide) (show _ + 1 = _ from rfl) | exact Y.fieldAddr rfl rfl Try.underlying75 rfl Try.sizeOf23 (by decide)) ?_
        refine Jp.y 114 rfl (want_as rfl rfl rfl rfl) rfl rfl Kp.true (by first | exact Y.loadO 50 rfl Try.isAgg23 rfl rfl rfl | exact Y.loadO 50 rfl Try.isAgg23 rfl rfl rfl | exact Y.loadO 51 rfl Try.isAgg23 rfl rfl rfl | exact Y.loadR rfl Try.isAgg23 rfl hcell) ?_
        refine Jp.y 115 rfl (want_as rfl rfl rfl rfl) rfl rfl Kp.true (Y.lenslice rfl Try.underlying23 rfl) ?_
        refine Jp.y 116 rfl (want_as rfl rfl rfl rfl) rfl rfl Kp.true (Y.gtr rfl rfl rfl) ?_
        refine Jp.y 117 rfl (want_all rfl) rfl rfl Kp.true (Y.pickF rfl rfl rfl) ?_
        refine Jp.done hK33 ?_
        refine Cd.cond rfl (fun g117 => ?_) (fun g117 => ?_)
        · skip
          refine Cd.seq fun K37 hK37 => ?_
          refine Cd.plain [(0, false)] rfl rfl ?_
          refine Jp.y 2 rfl (want_all rfl) rfl rfl Kp.true (Y.assign rfl rfl) ?_
          refine Jp.done hK37 ?_
          refine Cd.ret [] rfl (res1 rfl rfl) trivial ⟨rfl, congrArg Value.bool (good_file (k := g) (by show g < (xf.map FileG.p).length; simpa using hg) (by show okAt (xf.map FileG.p) g = false; rw [okAt_eq hg, goodFile_big (by simpa using g117)]; rfl)).symm, rfl⟩
        try simp only [decide_eq_false_iff_not, decide_eq_true_eq, Int.not_lt, Int.not_le, Bool.not_eq_false, Bool.not_eq_true, Bool.not_true, Bool.not_false, Bool.not_eq_true', Bool.not_eq_false', beq_eq_false_iff_ne, ne_eq, beq_iff_eq, bne_iff_ne, bne_eq_false_iff_eq, Classical.not_not] at g117
        refine Cd.skip hK32 ?_
        refine Cd.seq fun K38 hK38 => ?_
        refine Cd.plain [(0, false)] rfl rfl ?_
        refine Jp.y 7 rfl (want_all rfl) rfl rfl Kp.true (Y.assign rfl rfl) ?_
        refine Jp.done hK38 ?_
        refine Cd.block ?_
        obtain ⟨n, rfl⟩ : ∃ n, n = g := ⟨_, rfl⟩
        refine Cd.loop (G := Nat) (fun k => k ≤ n ∧ ∀ j x, j < k → (xf.take n)[j]? = some x → (str x.name == str xf[n].name) = false) (fun k => n - k) (fun _ => ρ1) (fun k => [(1, .pointer (some ⟨b50, 0, none⟩)), (5, .int .i64 n), (6, .pointer (some ⟨b51, 0, none⟩)), (7, .int .i64 k)]) (fun _ => [(50, Pt b50 (.cells #[.slice Aa xa.length ca, .slice Ai xi.length ci, .slice As xs.length cs, .slice Ar xr.length cr, .slice Ac xk.length cc, .slice (some ad) xf.length cf] 38)), (51, Pt b51 (.cells xf[n].cells.toArray 75))]) 0 ⟨Nat.zero_le _, fun j x h => by omega⟩ rfl ⟨rfl, rfl, rfl, rfl, trivial⟩ ⟨rfl, rfl, trivial⟩ (fun g KLc hok hLc => ?_)
        refine Cd.seq fun K39 hK39 => ?_
        refine Cd.seq fun K40 hK40 => ?_
        refine Cd.plain [(0, false), (1, false), (2, false)] rfl rfl ?_
        refine Jp.y 118 rfl (want_all rfl) rfl rfl Kp.true (Y.move rfl rfl) ?_
        refine Jp.y 119 rfl (want_all rfl) rfl rfl Kp.true (Y.move rfl rfl) ?_
        refine Jp.y 120 rfl (want_all rfl) rfl rfl Kp.true (Y.lss rfl rfl rfl) ?_
        refine Jp.done hK40 ?_
        refine Cd.cond rfl (fun ga => ?_) (fun ga => ?_)
        · simp only [decide_eq_true_eq] at ga
          obtain ⟨oi1, oi2⟩ := hok
          have hgn : g < n := by omega
          have hgf : g < xf.length := by omega
          have hgy : xf[g]? = some xf[g] := by simp [hgf]
          have hcell : cellH ρ1 ((ad.add (g * 2)).add 0) = some (.string xf[g].name) := hr.files.at rfl hgy 0 _ rfl
          refine Cd.skip hK39 ?_
          refine Cd.seq fun K41 hK41 => ?_
          refine Cd.block ?_
          refine Cd.seq fun K42 hK42 => ?_
          refine Cd.drawn [(50, _), (51, _)] ⟨rfl, rfl, trivial⟩ [(0, true), (1, true), (2, true), (3, true), (4, true), (5, true), (6, true), (7, true), (8, true)] follows (by kernel_rfl) (fun hrl => ?_)
          refine Jp.q 123 rfl (want_all rfl) rfl rfl (by first | exact Y.fieldAddrP rfl rfl Try.underlying38 rfl Try.sizeOf36 (by decide) (show _ + 5 = _ from rfl) | exact Y.fieldAddr rfl rfl Try.underlying38 rfl Try.sizeOf36 (by decide)) ?_
          refine Jp.q 124 rfl (want_all rfl) rfl rfl (by first | exact Y.loadO 50 rfl Try.isAgg36 rfl rfl rfl | exact Y.loadO 50 rfl Try.isAgg36 rfl rfl rfl | exact Y.loadO 51 rfl Try.isAgg36 rfl rfl rfl | exact Y.loadR rfl Try.isAgg36 rfl hcell) ?_
          refine Jp.q 125 rfl (want_all rfl) rfl rfl (Y.move rfl rfl) ?_
          refine Jp.q 126 rfl (want_all rfl) rfl rfl (Y.indexAddr (q := g * 2) rfl rfl rfl Try.underlying36 Try.sizeOf75 (by omega) (by omega) (by omega)) ?_
          refine Jp.q 127 rfl (want_all rfl) rfl rfl (by first | exact Y.fieldAddrP rfl rfl Try.underlying75 rfl Try.sizeOf9 (by decide) (show _ + 0 = _ from rfl) | exact Y.fieldAddr rfl rfl Try.underlying75 rfl Try.sizeOf9 (by decide)) ?_
          refine Jp.q 128 rfl (want_all rfl) rfl rfl (by first | exact Y.loadO 50 rfl Try.isAgg9 rfl rfl rfl | exact Y.loadO 50 rfl Try.isAgg9 rfl rfl rfl | exact Y.loadO 51 rfl Try.isAgg9 rfl rfl rfl | exact Y.loadR rfl Try.isAgg9 rfl hcell) ?_
          refine Jp.q 129 rfl (want_all rfl) rfl rfl (by first | exact Y.fieldAddrP rfl rfl Try.underlying75 rfl Try.sizeOf9 (by decide) (show _ + 0 = _ from rfl) | exact Y.fieldAddr rfl rfl Try.underlying75 rfl Try.sizeOf9 (by decide)) ?_
          refine Jp.q 130 rfl (want_all rfl) rfl rfl (by first | exact Y.loadO 50 rfl Try.isAgg9 rfl rfl rfl | exact Y.loadO 50 rfl Try.isAgg9 rfl rfl rfl | exact Y.loadO 51 rfl Try.isAgg9 rfl rfl rfl | exact Y.loadR rfl Try.isAgg9 rfl hcell) ?_
          refine Jp.q 131 rfl (want_all rfl) rfl rfl (Y.streql rfl rfl rfl) ?_
          refine Jp.done hK42 ?_
          refine Cd.cond rfl (fun g131 => ?_) (fun g131 => ?_)
          · skip
            refine Cd.seq fun K44 hK44 => ?_
            refine Cd.plain [(0, false)] rfl rfl ?_
            refine Jp.y 2 rfl (want_all rfl) rfl rfl Kp.true (Y.assign rfl rfl) ?_
            refine Jp.done hK44 ?_
            refine Cd.ret [] rfl (res1 rfl rfl) trivial ⟨rfl, congrArg Value.bool (good_file (k := n) (by show n < (xf.map FileG.p).length; simpa using hg) (by show okAt (xf.map FileG.p) n = false; rw [okAt_eq hg, any_true (k := g) (x := xf[g]) (by rw [List.getElem?_take_of_lt hgn]; exact hgy) g131]; simp)).symm, rfl⟩
          try simp only [decide_eq_false_iff_not, decide_eq_true_eq, Int.not_lt, Int.not_le, Bool.not_eq_false, Bool.not_eq_true, Bool.not_true, Bool.not_false, Bool.not_eq_true', Bool.not_eq_false', beq_eq_false_iff_ne, ne_eq, beq_iff_eq, bne_iff_ne, bne_eq_false_iff_eq, Classical.not_not] at g131
          refine Cd.over rfl hK41 ?_
          refine Cd.plain [(0, false), (1, false), (2, false)] rfl rfl ?_
          refine Jp.y 121 rfl (want_all rfl) rfl rfl Kp.true (Y.move rfl rfl) ?_
          refine Jp.y 122 rfl (want_all rfl) rfl rfl Kp.true (Y.add_ rfl rfl rfl (by first | exact wrap_i64 (by omega) (by omega) | rfl)) ?_
          refine Jp.y 7 rfl (want_all rfl) rfl rfl Kp.true (Y.assign rfl rfl) ?_
          refine Jp.again hLc (g + 1) ⟨by omega, fun j x hj hx => ?_⟩ (by omega) rfl ⟨rfl, rfl, rfl, rfl, trivial⟩ ⟨rfl, rfl, trivial⟩
          by_cases hjg : j < g
          · exact oi2 j x hjg hx
          · have : j = g := by omega
            subst this
            rw [List.getElem?_take_of_lt hgn, hgy] at hx
            injection hx with hx
            subst hx
            simpa using g131
        · simp only [decide_eq_false_iff_not] at ga
          obtain ⟨oi1, oi2⟩ := hok
          refine Cd.exit rfl hK30 ?_
          refine Cd.plain [(0, false), (1, false), (2, false)] rfl rfl ?_
          refine Jp.y 90 rfl (want_all rfl) rfl rfl Kp.true (Y.move rfl rfl) ?_
          refine Jp.y 91 rfl (want_all rfl) rfl rfl Kp.true (Y.add_ rfl rfl rfl (by first | exact wrap_i64 (by omega) (by omega) | rfl)) ?_
          refine Jp.y 5 rfl (want_all rfl) rfl rfl Kp.true (Y.assign rfl rfl) ?_
          refine Jp.again hLf (n + 1) ⟨by omega, fun j hj => ?_⟩ (by omega) rfl ⟨rfl, rfl, trivial⟩ ⟨rfl, trivial⟩
          by_cases hjg : j < n
          · exact ok2 j hjg
          · have : j = n := by omega
            subst this
            rw [okAt_eq hg, goodFile_of g101 g107 g112 g117, any_false oi2 (by rw [List.length_take]; omega)]
            rfl
      · simp only [decide_eq_false_iff_not] at ga
        obtain ⟨ok1, ok2⟩ := hok
        have hF : goodFiles (xf.map FileG.p) = true := by rw [← goodFiles_all ok2 (by omega)]; exact decide_eq_true (by omega)
        refine Cd.exit rfl hK26 ?_
        refine Cd.seq fun K45 hK45 => ?_
        refine Cd.plain [(0, false)] rfl rfl ?_
        refine Jp.y 2 rfl (want_all rfl) rfl rfl Kp.true (Y.assign rfl rfl) ?_
        refine Jp.done hK45 ?_
        refine Cd.ret [] rfl (res1 rfl rfl) trivial ⟨rfl, congrArg Value.bool (good_yes hS (show xs.length ≤ 64 by omega) (show xk.length ≤ 64 by omega) (show xi.length ≤ 4096 by omega) (show xr.length ≤ 4096 by omega) hA hF).symm, rfl⟩
end Go.Proofs.Ytogkncmhonomdaa
