/- Contracts: the reference's Begin; fee. -/
import Derived.Test.YtjjhihlmoecmlaaFeedO
set_option linter.unusedVariables false
set_option linter.unusedSimpArgs false
set_option maxRecDepth 100000
namespace Go.Proofs.Ytjjhihlmoecmlaa
open Go
theorem f22_spec (f : FeedG) : Spec Try.prog 22 #[.agg f.cells.toArray] (RdFeed f) [] (fun ρ ρ' v L => ρ' = ρ ∧ ∃ b u, v = .pointer (some ⟨b, 0, none⟩) ∧ L = [(0, RefPt b u)] ∧ RdRef u ρ' ∧ u.p = beginP f.p) := by
  obtain ⟨args, input, short, random, clock, files⟩ := f
  refine Spec.of 10 Try.func22 rfl Try.ntmps22 [(0, _)] rfl rfl ?_
  intro cx ρ hr h0
  refine Cd.seq fun K1 hK1 => ?_
  refine Cd.plain [(0, false), (1, false)] rfl rfl ?_
  refine Jp.box 50 1 rfl (want_all rfl) rfl rfl rfl rfl fun b50 => ⟨Kp.true, ?_⟩
  refine Jp.y 2 rfl (want_all rfl) rfl rfl Kp.true (Y.assign rfl rfl) ?_
  refine Jp.done hK1 ?_
  refine Cd.seq fun K2 hK2 => ?_
  refine Cd.seq fun K3 hK3 => ?_
  refine Cd.plain [(0, false), (1, false), (2, false)] rfl rfl ?_
  refine Jp.y 3 rfl (want_all rfl) rfl rfl Kp.true (by first | exact Y.loadAggO 50 rfl Try.isAgg30 Try.sizeOf30 rfl rfl rfl | exact Y.loadAggO 50 rfl Try.isAgg30 Try.sizeOf30 rfl rfl rfl) ?_
  refine Jp.call [] [] (f16_spec ⟨args, input, short, random, clock, files⟩) 4 rfl (want_all rfl) rfl rfl (Runs.fn rfl Try.call16 rfl) (by decide) (by decide) rfl hr ?_
  rintro v1 ρ1 L1 ⟨rfl, rfl, rfl⟩
  refine ⟨rfl, fun hle1 => ⟨Kp.true, ?_⟩⟩
  refine Jp.y 5 rfl (want_all rfl) rfl rfl Kp.true (Y.not rfl rfl) ?_
  refine Jp.done hK3 ?_
  refine Cd.cond rfl (fun hg => ?_) (fun hg => ?_)
  · rw [Bool.not_eq_true'] at hg
    refine Cd.plain [(0, false), (1, false)] rfl rfl ?_
    refine Jp.y 6 rfl (want_all rfl) rfl rfl Kp.true (Y.struct [] [_, _, _, _, _, _] rfl rfl places30 Try.zeroValue30 rfl) ?_
    first | refine Jp.storeAgg 50 rfl (want_all rfl) rfl rfl Try.sizeOf30 rfl rfl rfl rfl rfl rfl (fun k _ _ => noFr0 k) Kp.true ?_ | refine Jp.storeAgg 50 rfl (want_all rfl) rfl rfl Try.sizeOf30 rfl rfl rfl rfl rfl rfl (fun k _ _ => noFr0 k) Kp.true ?_
    refine Jp.done hK2 ?_
    refine Cd.seq fun K4 hK4 => ?_
    refine Cd.plain [(0, false), (1, false), (2, false), (3, false)] rfl rfl ?_
    refine Jp.y 7 rfl (want_all rfl) rfl rfl Kp.true (by first | exact Y.loadAggO 50 rfl Try.isAgg30 Try.sizeOf30 rfl rfl rfl | exact Y.loadAggO 50 rfl Try.isAgg30 Try.sizeOf30 rfl rfl rfl) ?_
    refine Jp.y 8 rfl (want_all rfl) rfl rfl Kp.true (Y.struct [(0, _)] [_, _, _, _, _, _, _, _, _] rfl rfl places53 Try.zeroValue53 rfl) ?_
    refine Jp.box 0 9 rfl (want_all rfl) rfl rfl rfl rfl fun b0 => ⟨Kp.true, ?_⟩
    refine Jp.y 2 rfl (want_all rfl) rfl rfl Kp.true (Y.assign rfl rfl) ?_
    refine Jp.done hK4 ?_
    refine Cd.ret [(0, _)] rfl (res1 rfl rfl) ⟨rfl, trivial⟩ ?_
    exact ⟨rfl, b0, ⟨feed0, 0, 0, 0⟩, rfl, rfl, ⟨RdS.nil 1 _, RdS.nil 1 _, RdS.nil 1 _, by simp, by simp, by simp, by simp [feed0], by simp [feed0], by simp [feed0]⟩, by rw [beginP, hg]; rfl⟩
  · rw [Bool.not_eq_false'] at hg
    obtain ⟨hb1, hb2, hb3, _⟩ := good_bounds hg
    have hb1 : short.xs.length ≤ 64 := hb1
    have hb2 : clock.xs.length ≤ 64 := hb2
    have hb3 : random.xs.length ≤ 4096 := hb3
    refine Cd.skip hK2 ?_
    refine Cd.seq fun K5 hK5 => ?_
    refine Cd.plain [(0, false), (1, false), (2, false), (3, false)] rfl rfl ?_
    refine Jp.y 7 rfl (want_all rfl) rfl rfl Kp.true (by first | exact Y.loadAggO 50 rfl Try.isAgg30 Try.sizeOf30 rfl rfl rfl | exact Y.loadAggO 50 rfl Try.isAgg30 Try.sizeOf30 rfl rfl rfl | exact Y.loadAggO 0 rfl Try.isAgg30 Try.sizeOf30 rfl rfl rfl) ?_
    refine Jp.y 8 rfl (want_all rfl) rfl rfl Kp.true (Y.struct [(0, _)] [_, _, _, _, _, _, _, _, _] rfl rfl places53 Try.zeroValue53 rfl) ?_
    refine Jp.box 0 9 rfl (want_all rfl) rfl rfl rfl rfl fun b0 => ⟨Kp.true, ?_⟩
    refine Jp.y 2 rfl (want_all rfl) rfl rfl Kp.true (Y.assign rfl rfl) ?_
    refine Jp.done hK5 ?_
    refine Cd.ret [(0, _)] rfl (res1 rfl rfl) ⟨rfl, trivial⟩ ?_
    exact ⟨rfl, b0, ⟨⟨args, input, short, random, clock, files⟩, 0, 0, 0⟩, rfl, rfl, ⟨hr.short, hr.random, hr.clock, Nat.zero_le _, Nat.zero_le _, Nat.zero_le _, by show short.xs.length ≤ 4096; omega, hb3, by show clock.xs.length ≤ 4096; omega⟩, by rw [beginP, hg]; rfl⟩
theorem filesV_snoc {xf : List FileG} {k : Nat} (hk : k < xf.length) : filesV (xf.take k) ++ [.string xf[k].name, xf[k].data.v] = filesV (xf.take (k + 1)) := by
  rw [List.take_add_one, List.getElem?_eq_getElem hk, filesV, filesV, List.flatMap_append]; rfl
theorem f23_spec (f : FeedG) (hf : f.files.xs.length ≤ 10) : Spec Try.prog 23 #[.agg f.cells.toArray] (RdFeed f) [] (fun ρ ρ' v L => ρ' = ρ ∧ ∃ A c, v = .agg #[f.args.v, f.input.v, f.short.v, f.random.v, f.clock.v, .slice A f.files.xs.length c] ∧ L = [(0, OwnS 93 2 A f.files.xs.length c (filesV f.files.xs))]) := by
  obtain ⟨args, input, short, random, clock, ⟨Af, cf, xf⟩⟩ := f
  have hf : xf.length ≤ 10 := hf
  dsimp only [FeedG.cells, Sl.v]
  refine Spec.of 42 Try.func23 rfl Try.ntmps23 [(0, _)] rfl rfl ?_
  intro cx ρ hr h0
  have hR : RdS 2 Af xf.length cf (filesV xf) ρ := hr.files.1
  refine Cd.seq fun K6 hK6 => ?_
  refine Cd.plain [(0, false), (1, false)] rfl rfl ?_
  refine Jp.box 50 1 rfl (want_all rfl) rfl rfl rfl rfl fun b50 => ⟨Kp.true, ?_⟩
  refine Jp.alloc 51 2 rfl (want_all rfl) rfl rfl rfl Try.zeroValue30 fun b51 => ⟨Kp.true, ?_⟩
  refine Jp.done hK6 ?_
  refine Cd.seq fun K7 hK7 => ?_
  refine Cd.plain [(0, false), (1, false), (2, false), (3, false), (4, false), (5, false), (6, false), (7, false), (8, false), (9, false), (10, false), (11, false), (12, false)] rfl rfl ?_
  refine Jp.y 5 rfl (want_all rfl) rfl rfl Kp.true (by first | exact Y.fieldAddrP rfl rfl Try.underlying35 rfl Try.sizeOf25 (by decide) (show _ + 0 = _ from rfl) | exact Y.fieldAddr rfl rfl Try.underlying35 rfl Try.sizeOf25 (by decide)) ?_
  refine Jp.y 6 rfl (want_all rfl) rfl rfl Kp.true (by first | exact Y.loadO 50 rfl Try.isAgg25 rfl rfl rfl | exact Y.loadO 51 rfl Try.isAgg25 rfl rfl rfl) ?_
  refine Jp.y 7 rfl (want_all rfl) rfl rfl Kp.true (by first | exact Y.fieldAddrP rfl rfl Try.underlying35 rfl Try.sizeOf26 (by decide) (show _ + 1 = _ from rfl) | exact Y.fieldAddr rfl rfl Try.underlying35 rfl Try.sizeOf26 (by decide)) ?_
  refine Jp.y 8 rfl (want_all rfl) rfl rfl Kp.true (by first | exact Y.loadO 50 rfl Try.isAgg26 rfl rfl rfl | exact Y.loadO 51 rfl Try.isAgg26 rfl rfl rfl) ?_
  refine Jp.y 9 rfl (want_all rfl) rfl rfl Kp.true (by first | exact Y.fieldAddrP rfl rfl Try.underlying35 rfl Try.sizeOf22 (by decide) (show _ + 2 = _ from rfl) | exact Y.fieldAddr rfl rfl Try.underlying35 rfl Try.sizeOf22 (by decide)) ?_
  refine Jp.y 10 rfl (want_all rfl) rfl rfl Kp.true (by first | exact Y.loadO 50 rfl Try.isAgg22 rfl rfl rfl | exact Y.loadO 51 rfl Try.isAgg22 rfl rfl rfl) ?_
  refine Jp.y 11 rfl (want_all rfl) rfl rfl Kp.true (by first | exact Y.fieldAddrP rfl rfl Try.underlying35 rfl Try.sizeOf26 (by decide) (show _ + 3 = _ from rfl) | exact Y.fieldAddr rfl rfl Try.underlying35 rfl Try.sizeOf26 (by decide)) ?_
  refine Jp.y 12 rfl (want_all rfl) rfl rfl Kp.true (by first | exact Y.loadO 50 rfl Try.isAgg26 rfl rfl rfl | exact Y.loadO 51 rfl Try.isAgg26 rfl rfl rfl) ?_
  refine Jp.y 13 rfl (want_all rfl) rfl rfl Kp.true (by first | exact Y.fieldAddrP rfl rfl Try.underlying35 rfl Try.sizeOf27 (by decide) (show _ + 4 = _ from rfl) | exact Y.fieldAddr rfl rfl Try.underlying35 rfl Try.sizeOf27 (by decide)) ?_
  refine Jp.y 14 rfl (want_all rfl) rfl rfl Kp.true (by first | exact Y.loadO 50 rfl Try.isAgg27 rfl rfl rfl | exact Y.loadO 51 rfl Try.isAgg27 rfl rfl rfl) ?_
  refine Jp.y 15 rfl (want_all rfl) rfl rfl Kp.true (Y.struct [(0, _), (1, _), (2, _), (3, _), (4, _)] [_, _, _, _, _, _] rfl rfl places30 Try.zeroValue30 rfl) ?_
  refine Jp.alloc 52 3 rfl (want_all rfl) rfl rfl rfl Try.zeroValue30 fun b52 => ⟨Kp.true, ?_⟩
  first | refine Jp.storeAgg 50 rfl (want_all rfl) rfl rfl Try.sizeOf30 rfl rfl rfl rfl rfl rfl (fun k _ _ => noFr0 k) Kp.true ?_ | refine Jp.storeAgg 51 rfl (want_all rfl) rfl rfl Try.sizeOf30 rfl rfl rfl rfl rfl rfl (fun k _ _ => noFr0 k) Kp.true ?_ | refine Jp.storeAgg 52 rfl (want_all rfl) rfl rfl Try.sizeOf30 rfl rfl rfl rfl rfl rfl (fun k _ _ => noFr0 k) Kp.true ?_
  refine Jp.done hK7 ?_
  refine Cd.seq fun K8 hK8 => ?_
  refine Cd.seq fun K9 hK9 => ?_
  refine Cd.plain [(0, false)] rfl rfl ?_
  refine Jp.y 4 rfl (want_all rfl) rfl rfl Kp.true (Y.assign rfl rfl) ?_
  refine Jp.done hK9 ?_
  refine Cd.block ?_
  refine Cd.make 0 (show OwnS 93 2 none 0 0 (filesV (xf.take 0)) Hp.emp from OwnS.nil 93 2 Hp.emp) ?_
  refine Cd.loop (G := Nat × Option Addr × Nat) (fun g => g.1 ≤ xf.length) (fun g => xf.length - g.1) (fun _ => ρ) (fun g => [(1, .pointer (some ⟨b50, 0, none⟩)), (2, .pointer (some ⟨b51, 0, none⟩)), (3, .pointer (some ⟨b52, 0, none⟩)), (4, .int .i64 g.1)]) (fun g => [(50, Pt b50 (.cells #[args.v, input.v, short.v, random.v, clock.v, .slice Af xf.length cf] 35)), (51, Pt b51 (.cells #[.slice none 0 0, .slice none 0 0, .slice none 0 0, .slice none 0 0, .slice none 0 0, .slice none 0 0] 30)), (52, Pt b52 (.cells #[args.v, input.v, short.v, random.v, clock.v, .slice g.2.1 g.1 g.2.2] 30)), (0, OwnS 93 2 g.2.1 g.1 g.2.2 (filesV (xf.take g.1)))]) (0, none, 0) (Nat.zero_le _) rfl ⟨rfl, rfl, rfl, rfl, trivial⟩ ⟨rfl, rfl, rfl, rfl, trivial⟩ (fun g KLa hok hLa => ?_)
  obtain ⟨k, A, c⟩ := g
  dsimp only at hok ⊢
  refine Cd.seq fun K10 hK10 => ?_
  refine Cd.seq fun K11 hK11 => ?_
  refine Cd.plain [(0, false), (1, false), (2, false), (3, false), (4, false)] rfl rfl ?_
  refine Jp.y 16 rfl (want_all rfl) rfl rfl Kp.true (Y.move rfl rfl) ?_
  refine Jp.y 17 rfl (want_all rfl) rfl rfl Kp.true (by first | exact Y.fieldAddrP rfl rfl Try.underlying35 rfl Try.sizeOf33 (by decide) (show _ + 5 = _ from rfl) | exact Y.fieldAddr rfl rfl Try.underlying35 rfl Try.sizeOf33 (by decide)) ?_
  refine Jp.y 18 rfl (want_all rfl) rfl rfl Kp.true (by first | exact Y.loadO 50 rfl Try.isAgg33 rfl rfl rfl | exact Y.loadO 51 rfl Try.isAgg33 rfl rfl rfl | exact Y.loadO 52 rfl Try.isAgg33 rfl rfl rfl) ?_
  refine Jp.y 19 rfl (want_all rfl) rfl rfl Kp.true (Y.lenslice rfl Try.underlying33 rfl) ?_
  refine Jp.y 20 rfl (want_all rfl) rfl rfl Kp.true (Y.lss rfl rfl rfl) ?_
  refine Jp.done hK11 ?_
  refine Cd.cond rfl (fun ga => ?_) (fun ga => ?_)
  · simp only [decide_eq_true_eq] at ga
    have hk : k < xf.length := by omega
    obtain ⟨ad, rfl⟩ := hR.some (show 0 < xf.length * 2 by omega)
    have hkx : xf[k]? = some xf[k] := by simp [hk]
    have hc0 : cellH ρ ((ad.add (k * 2)).add 0) = some (.string xf[k].name) := hr.files.at rfl hkx 0 _ rfl
    have hc1 : cellH ρ ((ad.add (k * 2)).add 1) = some xf[k].data.v := hr.files.at rfl hkx 1 _ rfl
    refine Cd.skip hK10 ?_
    refine Cd.seq fun K12 hK12 => ?_
    refine Cd.block ?_
    refine Cd.drawn [(50, _), (52, _)] ⟨rfl, rfl, trivial⟩ [(0, true), (1, true), (2, true), (3, true), (4, true), (5, true), (6, true), (7, true), (8, true), (9, true), (10, true), (11, true), (12, true), (13, true), (14, true), (15, false), (16, false), (17, true), (18, false)] follows (by kernel_rfl) (fun hrl => ?_)
    refine Jp.q 23 rfl (want_all rfl) rfl rfl (by first | exact Y.fieldAddrP rfl rfl Try.underlying30 rfl Try.sizeOf28 (by decide) (show _ + 5 = _ from rfl) | exact Y.fieldAddr rfl rfl Try.underlying30 rfl Try.sizeOf28 (by decide)) ?_
    refine Jp.q 24 rfl (want_all rfl) rfl rfl (by first | exact Y.loadO 50 rfl Try.isAgg28 rfl rfl rfl | exact Y.loadO 51 rfl Try.isAgg28 rfl rfl rfl | exact Y.loadO 52 rfl Try.isAgg28 rfl rfl rfl | exact Y.loadR rfl Try.isAgg28 rfl hc0 | exact Y.loadR rfl Try.isAgg28 rfl hc1) ?_
    refine Jp.q 25 rfl (want_all rfl) rfl rfl (by first | exact Y.fieldAddrP rfl rfl Try.underlying35 rfl Try.sizeOf33 (by decide) (show _ + 5 = _ from rfl) | exact Y.fieldAddr rfl rfl Try.underlying35 rfl Try.sizeOf33 (by decide)) ?_
    refine Jp.q 26 rfl (want_all rfl) rfl rfl (by first | exact Y.loadO 50 rfl Try.isAgg33 rfl rfl rfl | exact Y.loadO 51 rfl Try.isAgg33 rfl rfl rfl | exact Y.loadO 52 rfl Try.isAgg33 rfl rfl rfl | exact Y.loadR rfl Try.isAgg33 rfl hc0 | exact Y.loadR rfl Try.isAgg33 rfl hc1) ?_
    refine Jp.q 27 rfl (want_all rfl) rfl rfl (Y.move rfl rfl) ?_
    refine Jp.q 28 rfl (want_all rfl) rfl rfl (Y.indexAddr (q := k * 2) rfl rfl rfl Try.underlying33 Try.sizeOf63 (by omega) (by omega) (by omega)) ?_
    refine Jp.q 29 rfl (want_all rfl) rfl rfl (by first | exact Y.fieldAddrP rfl rfl Try.underlying63 rfl Try.sizeOf9 (by decide) (show _ + 0 = _ from rfl) | exact Y.fieldAddr rfl rfl Try.underlying63 rfl Try.sizeOf9 (by decide)) ?_
    refine Jp.q 30 rfl (want_all rfl) rfl rfl (by first | exact Y.loadO 50 rfl Try.isAgg9 rfl rfl rfl | exact Y.loadO 51 rfl Try.isAgg9 rfl rfl rfl | exact Y.loadO 52 rfl Try.isAgg9 rfl rfl rfl | exact Y.loadR rfl Try.isAgg9 rfl hc0 | exact Y.loadR rfl Try.isAgg9 rfl hc1) ?_
    refine Jp.q 31 rfl (want_all rfl) rfl rfl (by first | exact Y.fieldAddrP rfl rfl Try.underlying35 rfl Try.sizeOf33 (by decide) (show _ + 5 = _ from rfl) | exact Y.fieldAddr rfl rfl Try.underlying35 rfl Try.sizeOf33 (by decide)) ?_
    refine Jp.q 32 rfl (want_all rfl) rfl rfl (by first | exact Y.loadO 50 rfl Try.isAgg33 rfl rfl rfl | exact Y.loadO 51 rfl Try.isAgg33 rfl rfl rfl | exact Y.loadO 52 rfl Try.isAgg33 rfl rfl rfl | exact Y.loadR rfl Try.isAgg33 rfl hc0 | exact Y.loadR rfl Try.isAgg33 rfl hc1) ?_
    refine Jp.q 33 rfl (want_all rfl) rfl rfl (Y.move rfl rfl) ?_
    refine Jp.q 34 rfl (want_all rfl) rfl rfl (Y.indexAddr (q := k * 2) rfl rfl rfl Try.underlying33 Try.sizeOf63 (by omega) (by omega) (by omega)) ?_
    refine Jp.q 35 rfl (want_all rfl) rfl rfl (by first | exact Y.fieldAddrP rfl rfl Try.underlying63 rfl Try.sizeOf26 (by decide) (show _ + 1 = _ from rfl) | exact Y.fieldAddr rfl rfl Try.underlying63 rfl Try.sizeOf26 (by decide)) ?_
    refine Jp.q 36 rfl (want_all rfl) rfl rfl (by first | exact Y.loadO 50 rfl Try.isAgg26 rfl rfl rfl | exact Y.loadO 51 rfl Try.isAgg26 rfl rfl rfl | exact Y.loadO 52 rfl Try.isAgg26 rfl rfl rfl | exact Y.loadR rfl Try.isAgg26 rfl hc0 | exact Y.loadR rfl Try.isAgg26 rfl hc1) ?_
    refine Jp.q 37 rfl (want_all rfl) rfl rfl (Y.struct [(0, _), (1, _)] [_, _] rfl rfl places93 Try.zeroValue93 rfl) ?_
    refine Jp.lit 38 2 [(0, _)] [_, _] rfl (want_all rfl) rfl rfl rfl rfl Try.underlying28 Try.sizeOf93 Try.zeroValue93 rfl rfl rfl rfl rfl fun b2 => ⟨(Kp.st ⟨rfl, rfl, trivial⟩), ?_⟩
    refine Jp.append 39 0 rfl (want_all rfl) rfl rfl rfl Try.underlying28 Try.underlying28 (.inl ⟨_, rfl⟩) Try.sizeOf93 Try.typeInfo93 Try.zeroValue93 rfl (by decide) rfl rfl rfl (Src.own 2 rfl) rfl (k + 1) (filesV (xf.take (k + 1))) (by first | omega | simp) (filesV_snoc hk) (by simp only [Try.t93]; omega) fun A1 c1 => ⟨(Kp.st ⟨rfl, rfl, trivial⟩), ?_⟩
    refine Jp.q 40 rfl (want_all rfl) rfl rfl (by first | exact Y.fieldAddrP rfl rfl Try.underlying30 rfl Try.sizeOf28 (by decide) (show _ + 5 = _ from rfl) | exact Y.fieldAddr rfl rfl Try.underlying30 rfl Try.sizeOf28 (by decide)) ?_
    first | refine Jp.store 50 rfl (want_all rfl) rfl rfl Try.sizeOf28 rfl rfl rfl rfl rfl rfl Kp.last ?_ | refine Jp.store 51 rfl (want_all rfl) rfl rfl Try.sizeOf28 rfl rfl rfl rfl rfl rfl Kp.last ?_ | refine Jp.store 52 rfl (want_all rfl) rfl rfl Try.sizeOf28 rfl rfl rfl rfl rfl rfl Kp.last ?_ | refine Jp.store 2 rfl (want_all rfl) rfl rfl Try.sizeOf28 rfl rfl rfl rfl rfl rfl Kp.last ?_
    refine Jp.over rfl hK12 ?_
    refine Cd.plain [(0, false), (1, false), (2, false)] rfl rfl ?_
    refine Jp.y 21 rfl (want_all rfl) rfl rfl Kp.true (Y.move rfl rfl) ?_
    refine Jp.y 22 rfl (want_all rfl) rfl rfl Kp.true (Y.add_ rfl rfl rfl (by first | exact wrap_i64 (by omega) (by omega) | rfl)) ?_
    refine Jp.y 4 rfl (want_all rfl) rfl rfl Kp.true (Y.assign rfl rfl) ?_
    refine Jp.again hLa (k + 1, A1, c1) (by dsimp only; omega) (by dsimp only; omega) rfl ⟨rfl, rfl, rfl, rfl, trivial⟩ ⟨rfl, rfl, rfl, rfl, trivial⟩
  · simp only [decide_eq_false_iff_not] at ga
    obtain rfl : xf.length = k := by omega
    refine Cd.exit rfl hK8 ?_
    refine Cd.seq fun K14 hK14 => ?_
    refine Cd.plain [(0, false), (1, false)] rfl rfl ?_
    refine Jp.y 41 rfl (want_all rfl) rfl rfl Kp.true (by first | exact Y.loadAggO 50 rfl Try.isAgg30 Try.sizeOf30 rfl rfl rfl | exact Y.loadAggO 51 rfl Try.isAgg30 Try.sizeOf30 rfl rfl rfl | exact Y.loadAggO 52 rfl Try.isAgg30 Try.sizeOf30 rfl rfl rfl | exact Y.loadAggO 2 rfl Try.isAgg30 Try.sizeOf30 rfl rfl rfl) ?_
    first | refine Jp.storeAgg 50 rfl (want_all rfl) rfl rfl Try.sizeOf30 rfl rfl rfl rfl rfl rfl (fun k _ _ => noFr0 k) Kp.true ?_ | refine Jp.storeAgg 51 rfl (want_all rfl) rfl rfl Try.sizeOf30 rfl rfl rfl rfl rfl rfl (fun k _ _ => noFr0 k) Kp.true ?_ | refine Jp.storeAgg 52 rfl (want_all rfl) rfl rfl Try.sizeOf30 rfl rfl rfl rfl rfl rfl (fun k _ _ => noFr0 k) Kp.true ?_ | refine Jp.storeAgg 2 rfl (want_all rfl) rfl rfl Try.sizeOf30 rfl rfl rfl rfl rfl rfl (fun k _ _ => noFr0 k) Kp.true ?_
    refine Jp.done hK14 ?_
    refine Cd.ret [(0, _)] rfl (by first | exact resC1 50 rfl rfl Try.isAgg30 Try.sizeOf30 rfl rfl | exact resC1 51 rfl rfl Try.isAgg30 Try.sizeOf30 rfl rfl | exact resC1 52 rfl rfl Try.isAgg30 Try.sizeOf30 rfl rfl | exact resC1 2 rfl rfl Try.isAgg30 Try.sizeOf30 rfl rfl) ⟨rfl, trivial⟩ ?_
    exact ⟨rfl, A, c, rfl, by rw [List.take_of_length_le (Nat.le_refl _)]⟩
end Go.Proofs.Ytjjhihlmoecmlaa
