/- Contract: FeedKnown. -/
import Derived.Test.YtjjhihlmoecmlaaFeedZD
set_option linter.unusedVariables false
set_option linter.unusedSimpArgs false
set_option maxRecDepth 100000
namespace Go.Proofs.Ytjjhihlmoecmlaa
open Go
theorem feedKnown_spec : Spec Try.prog 13 #[] (fun _ => True) [] (fun ρ ρ' v L => v = .bool true ∧ L = []) := by
  refine Spec.of 104 Try.func13 rfl Try.ntmps13 [] rfl rfl ?_
  intro cx ρ hr h0
  refine Cd.seq fun K1 hK1 => ?_
  refine Cd.plain [(0, false)] rfl rfl ?_
  refine Jp.y 0 rfl (want_all rfl) rfl rfl Kp.true (Y.assign rfl rfl) ?_
  refine Jp.done hK1 ?_
  refine Cd.seq fun K2 hK2 => ?_
  refine Cd.seq fun K3 hK3 => ?_
  refine Cd.plain [(0, false), (1, false)] rfl rfl ?_
  refine Jp.call [] [] f15_spec 15 rfl (want_all rfl) rfl rfl (Runs.fn rfl Try.call15 rfl) (by decide) (by decide) rfl trivial ?_
  rintro v1 ρ1 L1 ⟨rfl, rfl⟩
  refine ⟨rfl, fun hle1 => ⟨Kp.true, ?_⟩⟩
  refine Jp.y 16 rfl (want_all rfl) rfl rfl Kp.true (Y.not rfl rfl) ?_
  refine Jp.done hK3 ?_
  refine Cd.cond rfl (fun g16 => ?_) (fun g16 => ?_)
  · skip
    exact absurd g16 (by first | (simp; done) | decide)
  try simp only [decide_eq_false_iff_not, decide_eq_true_eq, Int.not_lt, Int.not_le, Bool.not_eq_false, Bool.not_eq_true, Bool.not_true, Bool.not_false, Bool.not_eq_true', Bool.not_eq_false', beq_eq_false_iff_ne, ne_eq, beq_iff_eq, bne_iff_ne, bne_eq_false_iff_eq, Classical.not_not] at g16
  refine Cd.skip hK2 ?_
  refine Cd.seq fun K4 hK4 => ?_
  refine Cd.plain [(0, false), (1, false), (2, false), (3, false), (4, false), (5, false), (6, false)] rfl rfl ?_
  refine Jp.call [] [] (get_spec ⟨none, 0, []⟩) 18 rfl (want_all rfl) rfl rfl (Runs.fn rfl Try.call38 rfl) (by decide) (by decide) rfl (RdS.nil 1 _) ?_
  rintro v2 ρ2 L2 ⟨g1, rfl, rfl, hg1, hp1, hc1⟩
  refine ⟨rfl, fun hle2 => ⟨Kp.true, ?_⟩⟩
  rw [show getErr (⟨none, 0, []⟩ : Sl UInt8).xs = 3 by decide +kernel]
  refine Jp.y 17 rfl (want_all rfl) rfl rfl Kp.true (Y.move rfl rfl) ?_
  refine Jp.y 19 rfl (want_all rfl) rfl rfl Kp.true (Y.extract rfl rfl rfl) ?_
  refine Jp.y 20 rfl (want_all rfl) rfl rfl Kp.true (Y.extract rfl rfl rfl) ?_
  refine Jp.alloc 20 1 rfl (want_all rfl) rfl rfl rfl Try.zeroValue35 fun b20 => ⟨Kp.true, ?_⟩
  first | refine Jp.storeAgg 20 rfl (want_all rfl) rfl rfl Try.sizeOf35 rfl rfl rfl rfl rfl rfl (fun k _ _ => noFr0 k) Kp.true ?_
  refine Jp.y 2 rfl (want_all rfl) rfl rfl Kp.true (Y.assign rfl rfl) ?_
  refine Jp.done hK4 ?_
  refine Cd.seq fun K5 hK5 => ?_
  refine Cd.plain [(0, false), (1, false), (2, false), (3, false), (4, false), (5, false), (6, false)] rfl rfl ?_
  refine Jp.y 22 rfl (want_all rfl) rfl rfl Kp.true (Y.struct [] [_, _, _, _, _, _] rfl rfl places35 Try.zeroValue35 rfl) ?_
  refine Jp.call [] [20, 3] (put_spec feed0 (by simp [feed0])) 23 rfl (want_all rfl) rfl rfl (Runs.fn rfl Try.call40 rfl) (by decide) (by decide) rfl (RdFeed.zero _) ?_
  rintro v3 ρ3 L3 ⟨rfl, A3, c3, rfl, rfl⟩
  refine ⟨rfl, fun hle3 => ⟨Kp.true, ?_⟩⟩
  rw [show good feed0.p = true by decide +kernel, if_pos rfl]
  have hl : (putB feed0.p).length = 24 := by decide +kernel
  rw [hl]
  refine Jp.y 21 rfl (want_all rfl) rfl rfl Kp.true (Y.move rfl rfl) ?_
  refine Jp.y 24 rfl (want_all rfl) rfl rfl Kp.true (Y.extract rfl rfl rfl) ?_
  refine Jp.y 25 rfl (want_all rfl) rfl rfl Kp.true (Y.extract rfl rfl rfl) ?_
  refine Jp.y 3 rfl (want_all rfl) rfl rfl Kp.true (Y.assign rfl rfl) ?_
  refine Jp.y 4 rfl (want_all rfl) rfl rfl Kp.true (Y.assign rfl rfl) ?_
  refine Jp.done hK5 ?_
  refine Cd.seq fun K6 hK6 => ?_
  refine Cd.plain [(0, false), (1, false), (2, false), (3, false), (4, false), (5, false), (6, false), (7, false)] rfl rfl ?_
  refine Jp.lit 27 4 [(0, _)] [_] rfl (want_all rfl) rfl rfl rfl rfl Try.underlying25 Try.sizeOf9 Try.zeroValue9 rfl rfl rfl rfl rfl fun b4 => ⟨Kp.true, ?_⟩
  refine Jp.freeze (i := 4) rfl (OwnS.up _ _ _ _ _ _) fun ρ4 l4 q4 => ?_
  refine Jp.y 28 rfl (want_all rfl) rfl rfl Kp.true (Y.struct [(0, _)] [_, _, _, _, _, _] rfl rfl places35 Try.zeroValue35 rfl) ?_
  refine Jp.call [] [20, 21] (put_spec ⟨⟨some ⟨b4, 0, none⟩, 1, [⟨#[97, 0]⟩]⟩, ⟨none, 0, []⟩, ⟨none, 0, []⟩, ⟨none, 0, []⟩, ⟨none, 0, []⟩, ⟨none, 0, []⟩⟩ (by simp)) 29 rfl (want_all rfl) rfl rfl (Runs.fn rfl Try.call40 rfl) (by decide) (by decide) rfl ⟨q4.rd, RdS.nil 1 _, RdS.nil 1 _, RdS.nil 1 _, RdS.nil 1 _, RdS.nil 2 _, by simp⟩ ?_
  rintro v5 ρ5 L5 ⟨rfl, A5, c5, rfl, rfl⟩
  refine ⟨rfl, fun hle5 => ⟨Kp.true, ?_⟩⟩
  rw [show good (FeedG.p ⟨⟨some ⟨b4, 0, none⟩, 1, [⟨#[97, 0]⟩]⟩, ⟨none, 0, []⟩, ⟨none, 0, []⟩, ⟨none, 0, []⟩, ⟨none, 0, []⟩, ⟨none, 0, []⟩⟩) = false from (by decide +kernel : good { args := [[97, 0]], input := [], short := [], random := [], clock := [], files := [] } = false), if_neg (by simp)]
  refine Jp.y 26 rfl (want_all rfl) rfl rfl Kp.true (Y.move rfl rfl) ?_
  refine Jp.y 30 rfl (want_all rfl) rfl rfl Kp.true (Y.extract rfl rfl rfl) ?_
  refine Jp.y 31 rfl (want_all rfl) rfl rfl Kp.true (Y.extract rfl rfl rfl) ?_
  refine Jp.y 5 rfl (want_all rfl) rfl rfl Kp.true (Y.assign rfl rfl) ?_
  refine Jp.y 6 rfl (want_all rfl) rfl rfl Kp.true (Y.assign rfl rfl) ?_
  refine Jp.done hK6 ?_
  refine Cd.seq fun K7 hK7 => ?_
  refine Cd.plain [(0, false), (1, false), (2, false), (3, false), (4, false), (5, false), (6, false), (7, false), (8, false), (9, false)] rfl rfl ?_
  refine Jp.y 33 rfl (want_all rfl) rfl rfl Kp.true (Y.struct [(0, _)] [_, _] rfl rfl places63 Try.zeroValue63 rfl) ?_
  refine Jp.y 34 rfl (want_all rfl) rfl rfl Kp.true (Y.struct [(0, _)] [_, _] rfl rfl places63 Try.zeroValue63 rfl) ?_
  refine Jp.lit 35 6 [(0, _), (1, _)] [_, _, _, _] rfl (want_all rfl) rfl rfl rfl rfl Try.underlying33 Try.sizeOf63 Try.zeroValue63 rfl rfl rfl rfl rfl fun b6 => ⟨Kp.true, ?_⟩
  refine Jp.freeze (i := 6) rfl (OwnS.up _ _ _ _ _ _) fun ρ6 l6 q6 => ?_
  refine Jp.y 36 rfl (want_all rfl) rfl rfl Kp.true (Y.struct [(5, _)] [_, _, _, _, _, _] rfl rfl places35 Try.zeroValue35 rfl) ?_
  have hr6 : RdFeed ⟨⟨none, 0, []⟩, ⟨none, 0, []⟩, ⟨none, 0, []⟩, ⟨none, 0, []⟩, ⟨none, 0, []⟩, ⟨some ⟨b6, 0, none⟩, 2, [⟨⟨#[97]⟩, ⟨none, 0, []⟩⟩, ⟨⟨#[97]⟩, ⟨none, 0, []⟩⟩]⟩⟩ ρ6 := ⟨RdS.nil 1 _, RdS.nil 1 _, RdS.nil 1 _, RdS.nil 1 _, RdS.nil 1 _, q6.rd, by intro x hx; simp at hx; subst hx; exact RdS.nil 1 _⟩
  refine Jp.call [] [20, 21] (put_spec ⟨⟨none, 0, []⟩, ⟨none, 0, []⟩, ⟨none, 0, []⟩, ⟨none, 0, []⟩, ⟨none, 0, []⟩, ⟨some ⟨b6, 0, none⟩, 2, [⟨⟨#[97]⟩, ⟨none, 0, []⟩⟩, ⟨⟨#[97]⟩, ⟨none, 0, []⟩⟩]⟩⟩ (by simp)) 37 rfl (want_all rfl) rfl rfl (Runs.fn rfl Try.call40 rfl) (by decide) (by decide) rfl hr6 ?_
  rintro v7 ρ7 L7 ⟨rfl, A7, c7, rfl, rfl⟩
  refine ⟨rfl, fun hle7 => ⟨Kp.true, ?_⟩⟩
  rw [show good (FeedG.p ⟨⟨none, 0, []⟩, ⟨none, 0, []⟩, ⟨none, 0, []⟩, ⟨none, 0, []⟩, ⟨none, 0, []⟩, ⟨some ⟨b6, 0, none⟩, 2, [⟨⟨#[97]⟩, ⟨none, 0, []⟩⟩, ⟨⟨#[97]⟩, ⟨none, 0, []⟩⟩]⟩⟩) = false from (by decide +kernel : good { args := [], input := [], short := [], random := [], clock := [], files := [([97], []), ([97], [])] } = false), if_neg (by simp)]
  refine Jp.y 32 rfl (want_all rfl) rfl rfl Kp.true (Y.move rfl rfl) ?_
  refine Jp.y 38 rfl (want_all rfl) rfl rfl Kp.true (Y.extract rfl rfl rfl) ?_
  refine Jp.y 39 rfl (want_all rfl) rfl rfl Kp.true (Y.extract rfl rfl rfl) ?_
  refine Jp.y 7 rfl (want_all rfl) rfl rfl Kp.true (Y.assign rfl rfl) ?_
  refine Jp.y 8 rfl (want_all rfl) rfl rfl Kp.true (Y.assign rfl rfl) ?_
  refine Jp.done hK7 ?_
  refine Cd.seq fun K8 hK8 => ?_
  refine Cd.plain [(0, false), (1, false), (2, false), (3, false), (4, false), (5, false), (6, false), (7, false)] rfl rfl ?_
  refine Jp.lit 41 8 [(0, _)] [_] rfl (want_all rfl) rfl rfl rfl rfl Try.underlying22 Try.sizeOf3 Try.zeroValue3 rfl rfl rfl rfl rfl fun b8 => ⟨Kp.true, ?_⟩
  refine Jp.freeze (i := 8) rfl (OwnS.up _ _ _ _ _ _) fun ρ8 l8 q8 => ?_
  refine Jp.y 42 rfl (want_all rfl) rfl rfl Kp.true (Y.struct [(2, _)] [_, _, _, _, _, _] rfl rfl places35 Try.zeroValue35 rfl) ?_
  refine Jp.call [] [20, 21] (put_spec ⟨⟨none, 0, []⟩, ⟨none, 0, []⟩, ⟨some ⟨b8, 0, none⟩, 1, [4097]⟩, ⟨none, 0, []⟩, ⟨none, 0, []⟩, ⟨none, 0, []⟩⟩ (by simp)) 43 rfl (want_all rfl) rfl rfl (Runs.fn rfl Try.call40 rfl) (by decide) (by decide) rfl ⟨RdS.nil 1 _, RdS.nil 1 _, q8.rd, RdS.nil 1 _, RdS.nil 1 _, RdS.nil 2 _, by simp⟩ ?_
  rintro v9 ρ9 L9 ⟨rfl, A9, c9, rfl, rfl⟩
  refine ⟨rfl, fun hle9 => ⟨Kp.true, ?_⟩⟩
  rw [show good (FeedG.p ⟨⟨none, 0, []⟩, ⟨none, 0, []⟩, ⟨some ⟨b8, 0, none⟩, 1, [4097]⟩, ⟨none, 0, []⟩, ⟨none, 0, []⟩, ⟨none, 0, []⟩⟩) = false from (by decide +kernel : good { args := [], input := [], short := [4097], random := [], clock := [], files := [] } = false), if_neg (by simp)]
  refine Jp.y 40 rfl (want_all rfl) rfl rfl Kp.true (Y.move rfl rfl) ?_
  refine Jp.y 44 rfl (want_all rfl) rfl rfl Kp.true (Y.extract rfl rfl rfl) ?_
  refine Jp.y 45 rfl (want_all rfl) rfl rfl Kp.true (Y.extract rfl rfl rfl) ?_
  refine Jp.y 9 rfl (want_all rfl) rfl rfl Kp.true (Y.assign rfl rfl) ?_
  refine Jp.y 10 rfl (want_all rfl) rfl rfl Kp.true (Y.assign rfl rfl) ?_
  refine Jp.done hK8 ?_
  refine Cd.seq fun K9 hK9 => ?_
  refine Cd.plain [(0, false), (1, false), (2, false), (3, false)] rfl rfl ?_
  refine Jp.lit 46 10 [(0, _)] [_] rfl (want_all rfl) rfl rfl rfl rfl Try.underlying26 Try.sizeOf5 Try.zeroValue5 rfl rfl rfl rfl rfl fun b10 => ⟨Kp.true, ?_⟩
  refine Jp.freeze (i := 10) rfl (OwnS.up _ _ _ _ _ _) fun ρ10 l10 q10 => ?_
  refine Jp.y 47 rfl (want_all rfl) rfl rfl Kp.true (Y.struct [(3, _)] [_, _, _, _, _, _] rfl rfl places35 Try.zeroValue35 rfl) ?_
  refine Jp.call [] [11] (f17_spec ⟨⟨none, 0, []⟩, ⟨none, 0, []⟩, ⟨none, 0, []⟩, ⟨some ⟨b10, 0, none⟩, 1, [9]⟩, ⟨none, 0, []⟩, ⟨none, 0, []⟩⟩) 48 rfl (want_all rfl) rfl rfl (Runs.fn rfl Try.call17 rfl) (by decide) (by decide) rfl ⟨RdS.nil 1 _, RdS.nil 1 _, RdS.nil 1 _, q10.rd, RdS.nil 1 _, RdS.nil 2 _, by simp⟩ ?_
  rintro v11 ρ11 L11 ⟨bu, u, rfl, rfl, hu, hup⟩
  refine ⟨rfl, fun hle11 => ⟨Kp.true, ?_⟩⟩
  have hup : u.p = ⟨[], [9], [], 0, 0, 0⟩ := hup
  refine Jp.y 11 rfl (want_all rfl) rfl rfl Kp.true (Y.assign rfl rfl) ?_
  refine Jp.done hK9 ?_
  refine Cd.seq fun K10 hK10 => ?_
  refine Cd.plain [(0, false), (1, false), (2, false)] rfl rfl ?_
  refine Jp.y 49 rfl (want_all rfl) rfl rfl Kp.true (Y.move rfl rfl) ?_
  refine Jp.call [11] [11, 12] (f20_spec bu u 3) 50 rfl (want_all rfl) rfl rfl (Runs.fn rfl Try.call20 rfl) (by decide) (by decide) rfl hu ?_
  rintro v12 ρ12 L12 ⟨rfl, A12, B12, c12, rfl, rfl, u12, rfl, hu12, hp12⟩
  refine ⟨rfl, fun hle12 => ⟨Kp.true, ?_⟩⟩
  rw [show (bytesP u.p 3).1 = [9, 0, 0] by rw [hup]; decide +kernel]
  have hp12 : u12.p = ⟨[], [9], [], 0, 1, 0⟩ := by rw [hp12, hup]; rfl
  refine Jp.y 12 rfl (want_all rfl) rfl rfl Kp.true (Y.assign rfl rfl) ?_
  refine Jp.done hK10 ?_
  refine Cd.seq fun K11 hK11 => ?_
  refine Cd.plain [(0, false), (1, false), (2, false)] rfl rfl ?_
  refine Jp.y 51 rfl (want_all rfl) rfl rfl Kp.true (Y.move rfl rfl) ?_
  refine Jp.call [11] [11, 13] (f20_spec bu u12 4097) 52 rfl (want_all rfl) rfl rfl (Runs.fn rfl Try.call20 rfl) (by decide) (by decide) rfl hu12 ?_
  rintro v13 ρ13 L13 ⟨rfl, A13, B13, c13, rfl, rfl, u13, rfl, hu13, hp13⟩
  refine ⟨rfl, fun hle13 => ⟨Kp.true, ?_⟩⟩
  rw [show (bytesP u12.p 4097).1 = [] by rw [hp12]; decide +kernel]
  have hp13 : u13.p = ⟨[], [9], [], 0, 1, 0⟩ := by rw [hp13, hp12]; rfl
  refine Jp.y 13 rfl (want_all rfl) rfl rfl Kp.true (Y.assign rfl rfl) ?_
  refine Jp.done hK11 ?_
  refine Cd.seq fun K12 hK12 => ?_
  refine Cd.plain [(0, false), (1, false), (2, false), (3, false)] rfl rfl ?_
  refine Jp.lit 53 14 [(0, _)] [_] rfl (want_all rfl) rfl rfl rfl rfl Try.underlying22 Try.sizeOf3 Try.zeroValue3 rfl rfl rfl rfl rfl fun b14 => ⟨Kp.true, ?_⟩
  refine Jp.freeze (i := 14) rfl (OwnS.up _ _ _ _ _ _) fun ρ14 l14 q14 => ?_
  have hu13 := RdUse.up _ _ _ l14 hu13
  refine Jp.y 54 rfl (want_all rfl) rfl rfl Kp.true (Y.struct [(2, _)] [_, _, _, _, _, _] rfl rfl places35 Try.zeroValue35 rfl) ?_
  refine Jp.call [] [15] (f17_spec ⟨⟨none, 0, []⟩, ⟨none, 0, []⟩, ⟨some ⟨b14, 0, none⟩, 1, [-1]⟩, ⟨none, 0, []⟩, ⟨none, 0, []⟩, ⟨none, 0, []⟩⟩) 55 rfl (want_all rfl) rfl rfl (Runs.fn rfl Try.call17 rfl) (by decide) (by decide) rfl ⟨RdS.nil 1 _, RdS.nil 1 _, q14.rd, RdS.nil 1 _, RdS.nil 1 _, RdS.nil 2 _, by simp⟩ ?_
  rintro v15 ρ15 L15 ⟨bv, v, rfl, rfl, hv, hvp⟩
  refine ⟨rfl, fun hle15 => ⟨Kp.true, ?_⟩⟩
  have hu13 := RdUse.up _ _ _ hle15 hu13
  have hvp : v.p = ⟨[], [], [], 0, 0, 0⟩ := hvp
  refine Jp.y 14 rfl (want_all rfl) rfl rfl Kp.true (Y.assign rfl rfl) ?_
  refine Jp.done hK12 ?_
  refine Cd.seq fun K13 hK13 => ?_
  refine Cd.plain [(0, false), (1, false), (2, false), (3, false), (4, false), (5, false), (6, false), (7, false), (8, false), (9, false), (10, false), (11, false), (12, false), (13, false), (14, false), (15, false), (16, false), (17, false), (18, false), (19, false), (20, false), (21, false), (22, false), (23, false), (24, false), (25, false), (26, false), (27, false), (28, false), (29, false), (30, false), (31, false), (32, false), (33, false), (34, false), (35, false), (36, false), (37, false), (38, false), (39, false), (40, false), (41, false), (42, false), (43, false), (44, false), (45, false), (46, false), (47, false), (48, false)] rfl rfl ?_
  refine Jp.y 56 rfl (want_all rfl) rfl rfl Kp.true (Y.move rfl rfl) ?_
  refine Jp.y 57 rfl (want_all rfl) rfl rfl Kp.true (Y.eql rfl rfl rfl) ?_
  refine Jp.y 58 rfl (want_all rfl) rfl rfl Kp.true (Y.move rfl rfl) ?_
  refine Jp.splitF 58 rfl (fun g58 => ?_) (fun g58 => ?_)
  · skip
    exact absurd g58 (by first | (simp; done) | decide | (rw [str_mkS]; decide))
  try simp only [decide_eq_false_iff_not, decide_eq_true_eq, Int.not_lt, Int.not_le, Bool.not_eq_false, Bool.not_eq_true, Bool.not_true, Bool.not_false, Bool.not_eq_true', Bool.not_eq_false', beq_eq_false_iff_ne, ne_eq, beq_iff_eq, bne_iff_ne, bne_eq_false_iff_eq, Classical.not_not] at g58
  refine Jp.y 59 rfl (want_as rfl rfl rfl rfl) rfl rfl Kp.true (Y.move rfl rfl) ?_
  refine Jp.y 60 rfl (want_as rfl rfl rfl rfl) rfl rfl Kp.true (Y.eql rfl rfl rfl) ?_
  refine Jp.y 61 rfl (want_all rfl) rfl rfl Kp.true (Y.pickT rfl rfl rfl) ?_
  refine Jp.y 62 rfl (want_all rfl) rfl rfl Kp.true (Y.move rfl rfl) ?_
  refine Jp.splitF 62 rfl (fun g62 => ?_) (fun g62 => ?_)
  · skip
    exact absurd g62 (by first | (simp; done) | decide | (rw [str_mkS]; decide))
  try simp only [decide_eq_false_iff_not, decide_eq_true_eq, Int.not_lt, Int.not_le, Bool.not_eq_false, Bool.not_eq_true, Bool.not_true, Bool.not_false, Bool.not_eq_true', Bool.not_eq_false', beq_eq_false_iff_ne, ne_eq, beq_iff_eq, bne_iff_ne, bne_eq_false_iff_eq, Classical.not_not] at g62
  refine Jp.y 63 rfl (want_as rfl rfl rfl rfl) rfl rfl Kp.true (Y.move rfl rfl) ?_
  refine Jp.y 64 rfl (want_as rfl rfl rfl rfl) rfl rfl Kp.true (Y.lenslice rfl Try.underlying26 rfl) ?_
  refine Jp.y 65 rfl (want_as rfl rfl rfl rfl) rfl rfl Kp.true (Y.eql rfl rfl rfl) ?_
  refine Jp.y 66 rfl (want_all rfl) rfl rfl Kp.true (Y.pickT rfl rfl rfl) ?_
  refine Jp.y 67 rfl (want_all rfl) rfl rfl Kp.true (Y.move rfl rfl) ?_
  refine Jp.splitF 67 rfl (fun g67 => ?_) (fun g67 => ?_)
  · skip
    exact absurd g67 (by first | (simp; done) | decide | (rw [str_mkS]; decide))
  try simp only [decide_eq_false_iff_not, decide_eq_true_eq, Int.not_lt, Int.not_le, Bool.not_eq_false, Bool.not_eq_true, Bool.not_true, Bool.not_false, Bool.not_eq_true', Bool.not_eq_false', beq_eq_false_iff_ne, ne_eq, beq_iff_eq, bne_iff_ne, bne_eq_false_iff_eq, Classical.not_not] at g67
  refine Jp.y 68 rfl (want_as rfl rfl rfl rfl) rfl rfl Kp.true (Y.move rfl rfl) ?_
  refine Jp.y 69 rfl (want_as rfl rfl rfl rfl) rfl rfl Kp.true (Y.eql rfl rfl rfl) ?_
  refine Jp.y 70 rfl (want_all rfl) rfl rfl Kp.true (Y.pickT rfl rfl rfl) ?_
  refine Jp.y 71 rfl (want_all rfl) rfl rfl Kp.true (Y.move rfl rfl) ?_
  refine Jp.splitF 71 rfl (fun g71 => ?_) (fun g71 => ?_)
  · skip
    exact absurd g71 (by first | (simp; done) | decide | (rw [str_mkS]; decide))
  try simp only [decide_eq_false_iff_not, decide_eq_true_eq, Int.not_lt, Int.not_le, Bool.not_eq_false, Bool.not_eq_true, Bool.not_true, Bool.not_false, Bool.not_eq_true', Bool.not_eq_false', beq_eq_false_iff_ne, ne_eq, beq_iff_eq, bne_iff_ne, bne_eq_false_iff_eq, Classical.not_not] at g71
  refine Jp.y 72 rfl (want_as rfl rfl rfl rfl) rfl rfl Kp.true (Y.move rfl rfl) ?_
  refine Jp.y 73 rfl (want_as rfl rfl rfl rfl) rfl rfl Kp.true (Y.eql rfl rfl rfl) ?_
  refine Jp.y 74 rfl (want_all rfl) rfl rfl Kp.true (Y.pickT rfl rfl rfl) ?_
  refine Jp.y 75 rfl (want_all rfl) rfl rfl Kp.true (Y.move rfl rfl) ?_
  refine Jp.splitF 75 rfl (fun g75 => ?_) (fun g75 => ?_)
  · skip
    exact absurd g75 (by first | (simp; done) | decide | (rw [str_mkS]; decide))
  try simp only [decide_eq_false_iff_not, decide_eq_true_eq, Int.not_lt, Int.not_le, Bool.not_eq_false, Bool.not_eq_true, Bool.not_true, Bool.not_false, Bool.not_eq_true', Bool.not_eq_false', beq_eq_false_iff_ne, ne_eq, beq_iff_eq, bne_iff_ne, bne_eq_false_iff_eq, Classical.not_not] at g75
  refine Jp.y 76 rfl (want_as rfl rfl rfl rfl) rfl rfl Kp.true (Y.move rfl rfl) ?_
  refine Jp.y 77 rfl (want_as rfl rfl rfl rfl) rfl rfl Kp.true (Y.eql rfl rfl rfl) ?_
  refine Jp.y 78 rfl (want_all rfl) rfl rfl Kp.true (Y.pickT rfl rfl rfl) ?_
  refine Jp.y 79 rfl (want_all rfl) rfl rfl Kp.true (Y.move rfl rfl) ?_
  refine Jp.splitF 79 rfl (fun g79 => ?_) (fun g79 => ?_)
  · skip
    exact absurd g79 (by first | (simp; done) | decide | (rw [str_mkS]; decide))
  try simp only [decide_eq_false_iff_not, decide_eq_true_eq, Int.not_lt, Int.not_le, Bool.not_eq_false, Bool.not_eq_true, Bool.not_true, Bool.not_false, Bool.not_eq_true', Bool.not_eq_false', beq_eq_false_iff_ne, ne_eq, beq_iff_eq, bne_iff_ne, bne_eq_false_iff_eq, Classical.not_not] at g79
  refine Jp.y 80 rfl (want_as rfl rfl rfl rfl) rfl rfl Kp.true (Y.move rfl rfl) ?_
  refine Jp.y 81 rfl (want_as rfl rfl rfl rfl) rfl rfl Kp.true (Y.toStr _ rfl rfl Try.underlying26 Try.underlying9 Try.underlying5 ⟨_, _, rfl⟩ (Src.own 12 rfl)) ?_
  refine Jp.y 82 rfl (want_as rfl rfl rfl rfl) rfl rfl Kp.true (Y.streql rfl rfl rfl) ?_
  refine Jp.y 83 rfl (want_all rfl) rfl rfl Kp.true (Y.pickT rfl rfl rfl) ?_
  refine Jp.y 84 rfl (want_all rfl) rfl rfl Kp.true (Y.move rfl rfl) ?_
  refine Jp.splitF 84 rfl (fun g84 => ?_) (fun g84 => ?_)
  · skip
    exact absurd g84 (by first | (simp; done) | decide | (rw [str_mkS]; decide))
  try simp only [decide_eq_false_iff_not, decide_eq_true_eq, Int.not_lt, Int.not_le, Bool.not_eq_false, Bool.not_eq_true, Bool.not_true, Bool.not_false, Bool.not_eq_true', Bool.not_eq_false', beq_eq_false_iff_ne, ne_eq, beq_iff_eq, bne_iff_ne, bne_eq_false_iff_eq, Classical.not_not] at g84
  refine Jp.y 85 rfl (want_as rfl rfl rfl rfl) rfl rfl Kp.true (Y.move rfl rfl) ?_
  refine Jp.y 86 rfl (want_as rfl rfl rfl rfl) rfl rfl Kp.true (Y.lenslice rfl Try.underlying26 rfl) ?_
  refine Jp.y 87 rfl (want_as rfl rfl rfl rfl) rfl rfl Kp.true (Y.eql rfl rfl rfl) ?_
  refine Jp.y 88 rfl (want_all rfl) rfl rfl Kp.true (Y.pickT rfl rfl rfl) ?_
  refine Jp.y 89 rfl (want_all rfl) rfl rfl Kp.true (Y.move rfl rfl) ?_
  refine Jp.splitF 89 rfl (fun g89 => ?_) (fun g89 => ?_)
  · skip
    exact absurd g89 (by first | (simp; done) | decide | (rw [str_mkS]; decide))
  try simp only [decide_eq_false_iff_not, decide_eq_true_eq, Int.not_lt, Int.not_le, Bool.not_eq_false, Bool.not_eq_true, Bool.not_true, Bool.not_false, Bool.not_eq_true', Bool.not_eq_false', beq_eq_false_iff_ne, ne_eq, beq_iff_eq, bne_iff_ne, bne_eq_false_iff_eq, Classical.not_not] at g89
  refine Jp.y 90 rfl (want_as rfl rfl rfl rfl) rfl rfl Kp.true (Y.move rfl rfl) ?_
  refine Jp.call [11] [11] (f26_spec bu u13) 91 rfl (want_as rfl rfl rfl rfl) rfl rfl (Runs.fn rfl Try.call26 rfl) (by decide) (by decide) rfl hu13 ?_
  rintro v16 ρ16 L16 ⟨rfl, rfl, A16, rfl, u16, rfl, hu16, hp16⟩
  refine ⟨rfl, fun hle16 => ⟨Kp.true, ?_⟩⟩
  rw [show (timeP u13.p).1 = 0 by rw [hp13]; rfl]
  refine Jp.y 92 rfl (want_as rfl rfl rfl rfl) rfl rfl Kp.true (Y.eql rfl rfl rfl) ?_
  refine Jp.y 93 rfl (want_all rfl) rfl rfl Kp.true (Y.pickT rfl rfl rfl) ?_
  refine Jp.y 94 rfl (want_all rfl) rfl rfl Kp.true (Y.move rfl rfl) ?_
  refine Jp.splitF 94 rfl (fun g94 => ?_) (fun g94 => ?_)
  · skip
    exact absurd g94 (by first | (simp; done) | decide | (rw [str_mkS]; decide))
  try simp only [decide_eq_false_iff_not, decide_eq_true_eq, Int.not_lt, Int.not_le, Bool.not_eq_false, Bool.not_eq_true, Bool.not_true, Bool.not_false, Bool.not_eq_true', Bool.not_eq_false', beq_eq_false_iff_ne, ne_eq, beq_iff_eq, bne_iff_ne, bne_eq_false_iff_eq, Classical.not_not] at g94
  refine Jp.y 95 rfl (want_as rfl rfl rfl rfl) rfl rfl Kp.true (Y.move rfl rfl) ?_
  refine Jp.call [15] [15] (f18_spec bv v (-1)) 96 rfl (want_as rfl rfl rfl rfl) rfl rfl (Runs.fn rfl Try.call18 rfl) (by decide) (by decide) rfl hv ?_
  rintro v17 ρ17 L17 ⟨rfl, rfl, A17, rfl, v17, rfl, hv17, hp17⟩
  refine ⟨rfl, fun hle17 => ⟨Kp.true, ?_⟩⟩
  rw [show (takeP v.p (-1)).1 = 0 by rw [hvp]; rfl]
  have hp17 : v17.p = ⟨[], [], [], 0, 0, 0⟩ := by rw [hp17, hvp]; rfl
  refine Jp.y 97 rfl (want_as rfl rfl rfl rfl) rfl rfl Kp.true (Y.eql rfl rfl rfl) ?_
  refine Jp.y 98 rfl (want_all rfl) rfl rfl Kp.true (Y.pickT rfl rfl rfl) ?_
  refine Jp.y 99 rfl (want_all rfl) rfl rfl Kp.true (Y.move rfl rfl) ?_
  refine Jp.splitF 99 rfl (fun g99 => ?_) (fun g99 => ?_)
  · skip
    exact absurd g99 (by first | (simp; done) | decide | (rw [str_mkS]; decide))
  try simp only [decide_eq_false_iff_not, decide_eq_true_eq, Int.not_lt, Int.not_le, Bool.not_eq_false, Bool.not_eq_true, Bool.not_true, Bool.not_false, Bool.not_eq_true', Bool.not_eq_false', beq_eq_false_iff_ne, ne_eq, beq_iff_eq, bne_iff_ne, bne_eq_false_iff_eq, Classical.not_not] at g99
  refine Jp.y 100 rfl (want_as rfl rfl rfl rfl) rfl rfl Kp.true (Y.move rfl rfl) ?_
  refine Jp.call [15] [15] (f18_spec bv v17 9) 101 rfl (want_as rfl rfl rfl rfl) rfl rfl (Runs.fn rfl Try.call18 rfl) (by decide) (by decide) rfl hv17 ?_
  rintro v18 ρ18 L18 ⟨rfl, rfl, A18, rfl, v18, rfl, hv18, hp18⟩
  refine ⟨rfl, fun hle18 => ⟨Kp.true, ?_⟩⟩
  rw [show (takeP v17.p 9).1 = 9 by rw [hp17]; rfl]
  refine Jp.y 102 rfl (want_as rfl rfl rfl rfl) rfl rfl Kp.true (Y.eql rfl rfl rfl) ?_
  refine Jp.y 103 rfl (want_all rfl) rfl rfl Kp.true (Y.pickT rfl rfl rfl) ?_
  refine Jp.y 0 rfl (want_all rfl) rfl rfl Kp.true (Y.assign rfl rfl) ?_
  refine Jp.done hK13 ?_
  refine Cd.ret [] rfl (res1 rfl rfl) trivial ⟨rfl, rfl⟩
end Go.Proofs.Ytjjhihlmoecmlaa
