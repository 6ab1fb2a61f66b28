import Derived.Test.YtogkncmhonomdaaZFilesK
import Derived.Test.YtogkncmhonomdaaZFilesG
import Derived.Test.YtogkncmhonomdaaZFeedP
set_option linter.unusedVariables false
set_option linter.unusedSimpArgs false
set_option maxRecDepth 100000
namespace Go.Proofs.Ytogkncmhonomdaa
open Go
theorem refTake2_spec (b : Nat) (u : RefG) (n : Int) : Spec Try.prog 31 #[.pointer (some ⟨b, 0, none⟩), .int .i64 n] (RdRef u) [(0, RefPt b u)]
    (fun ρ ρ' v L => ρ' = ρ ∧ v = .int .i64 (takeP u.p n).1 ∧ ∃ u' : RefG, u'.f = u.f ∧ RdRef u' ρ ∧ u'.p = (takeP u.p n).2 ∧ L = [(0, RefPt b u')]) := by
  obtain ⟨⟨args, input, ⟨As, cs, xs⟩, random, clock, files⟩, k, kb, kc⟩ := u
  dsimp only [RefPt, RefG.cells, Sl.v]
  refine Spec.of 53 Try.func31 rfl Try.ntmps31 [(0, _), (1, _)] rfl rfl ?_
  intro cx ρ hr h0
  have hn1 : xs.length ≤ 4096 := hr.n1
  have hk1 : k ≤ xs.length := hr.l1
  refine Cd.seq fun K1 hK1 => ?_
  refine Cd.plain [(0, false)] rfl rfl ?_
  refine Jp.y 4 rfl (want_all rfl) rfl rfl Kp.true (Y.assign rfl rfl) ?_
  refine Jp.done hK1 ?_
  refine Cd.seq fun K2 hK2 => ?_
  refine Cd.seq fun K3 hK3 => ?_
  refine Cd.plain [(0, false), (1, false)] rfl rfl ?_
  refine Jp.y 5 rfl (want_all rfl) rfl rfl Kp.true (Y.move rfl rfl) ?_
  refine Jp.y 6 rfl (want_all rfl) rfl rfl Kp.true (Y.lss rfl rfl rfl) ?_
  refine Jp.done hK3 ?_
  refine Cd.cond rfl (fun ga => ?_) (fun ga => ?_)
  · simp only [decide_eq_true_eq] at ga
    refine Cd.seq fun K4 hK4 => ?_
    refine Cd.plain [(0, false)] rfl rfl ?_
    refine Jp.y 4 rfl (want_all rfl) rfl rfl Kp.true (Y.assign rfl rfl) ?_
    refine Jp.done hK4 ?_
    refine Cd.ret [(0, _)] rfl (res1 rfl rfl) ⟨rfl, trivial⟩ ⟨rfl, by rw [takeP, if_pos ga], ⟨⟨args, input, ⟨As, cs, xs⟩, random, clock, files⟩, k, kb, kc⟩, rfl, hr, by rw [takeP, if_pos ga], rfl⟩
  · simp only [decide_eq_false_iff_not] at ga
    refine Cd.skip hK2 ?_
    refine Cd.seq fun K5 hK5 => ?_
    refine Cd.seq fun K6 hK6 => ?_
    refine Cd.drawn [(0, _)] ⟨rfl, trivial⟩ [(0, true), (1, true), (2, true), (3, true), (4, true), (5, true), (6, true), (7, true), (8, true), (9, true), (10, true)] follows (by kernel_rfl) (fun hrl => ?_)
    refine Jp.q 7 rfl (want_all rfl) rfl rfl (Y.move rfl rfl) ?_
    refine Jp.q 8 rfl (want_all rfl) rfl rfl (Y.nilCheck rfl rfl) ?_
    refine Jp.q 9 rfl (want_all rfl) rfl rfl (by first | exact Y.fieldAddrP rfl rfl Try.underlying55 rfl Try.sizeOf3 (by decide) (show _ + 6 = _ from rfl) | exact Y.fieldAddr rfl rfl Try.underlying55 rfl Try.sizeOf3 (by decide)) ?_
    refine Jp.q 10 rfl (want_all rfl) rfl rfl (Y.loadO 0 rfl Try.isAgg3 rfl rfl rfl) ?_
    refine Jp.q 11 rfl (want_all rfl) rfl rfl (Y.move rfl rfl) ?_
    refine Jp.q 12 rfl (want_all rfl) rfl rfl (Y.nilCheck rfl rfl) ?_
    refine Jp.q 13 rfl (want_all rfl) rfl rfl (by first | exact Y.fieldAddrP rfl rfl Try.underlying55 rfl Try.sizeOf38 (by decide) (show _ + 0 = _ from rfl) | exact Y.fieldAddr rfl rfl Try.underlying55 rfl Try.sizeOf38 (by decide)) ?_
    refine Jp.q 14 rfl (want_all rfl) rfl rfl (by first | exact Y.fieldAddrP rfl rfl Try.underlying38 rfl Try.sizeOf24 (by decide) (show _ + 2 = _ from rfl) | exact Y.fieldAddr rfl rfl Try.underlying38 rfl Try.sizeOf24 (by decide)) ?_
    refine Jp.q 15 rfl (want_all rfl) rfl rfl (Y.loadO 0 rfl Try.isAgg24 rfl rfl rfl) ?_
    refine Jp.q 16 rfl (want_all rfl) rfl rfl (Y.lenslice rfl Try.underlying24 rfl) ?_
    refine Jp.q 17 rfl (want_all rfl) rfl rfl (Y.eql rfl rfl rfl) ?_
    refine Jp.done hK6 ?_
    refine Cd.cond rfl (fun gb => ?_) (fun gb => ?_)
    · simp only [beq_iff_eq] at gb
      have hx : xs[k]? = none := by rw [List.getElem?_eq_none_iff]; omega
      have e : takeP (RefG.p ⟨⟨args, input, ⟨As, cs, xs⟩, random, clock, files⟩, k, kb, kc⟩) n = (n, RefG.p ⟨⟨args, input, ⟨As, cs, xs⟩, random, clock, files⟩, k, kb, kc⟩) := by
        rw [takeP, if_neg ga]; simp only [RefG.p, hx]
      refine Cd.seq fun K8 hK8 => ?_
      refine Cd.plain [(0, false), (1, false)] rfl rfl ?_
      refine Jp.y 18 rfl (want_all rfl) rfl rfl Kp.true (Y.move rfl rfl) ?_
      refine Jp.y 4 rfl (want_all rfl) rfl rfl Kp.true (Y.assign rfl rfl) ?_
      refine Jp.done hK8 ?_
      refine Cd.ret [(0, _)] rfl (res1 rfl rfl) ⟨rfl, trivial⟩ ⟨rfl, by rw [e], ⟨⟨args, input, ⟨As, cs, xs⟩, random, clock, files⟩, k, kb, kc⟩, rfl, hr, by rw [e], rfl⟩
    · simp only [beq_eq_false_iff_ne, ne_eq] at gb
      have hlt : k < xs.length := by omega
      have hx : xs[k]? = some xs[k] := by simp [hlt]
      have e : takeP (RefG.p ⟨⟨args, input, ⟨As, cs, xs⟩, random, clock, files⟩, k, kb, kc⟩) n = (if xs[k] < n then xs[k] else n, RefG.p ⟨⟨args, input, ⟨As, cs, xs⟩, random, clock, files⟩, k + 1, kb, kc⟩) := by
        rw [takeP, if_neg ga]; simp only [RefG.p, hx]
      obtain ⟨ad, rfl⟩ := hr.short.some (show 0 < xs.length * 1 by omega)
      have hcell : cellH ρ (ad.add k) = some (.int .i64 xs[k]) := hr.short.cell (by simp [intsV, hlt])
      refine Cd.skip hK5 ?_
      refine Cd.seq fun K9 hK9 => ?_
      refine Cd.plain [(0, false), (1, false), (2, false), (3, false), (4, false), (5, false), (6, false), (7, false)] rfl rfl ?_
      refine Jp.y 19 rfl (want_all rfl) rfl rfl Kp.true (Y.move rfl rfl) ?_
      refine Jp.y 20 rfl (want_all rfl) rfl rfl Kp.true (Y.nilCheck rfl rfl) ?_
      refine Jp.y 21 rfl (want_all rfl) rfl rfl Kp.true (by first | exact Y.fieldAddrP rfl rfl Try.underlying55 rfl Try.sizeOf3 (by decide) (show _ + 6 = _ from rfl) | exact Y.fieldAddr rfl rfl Try.underlying55 rfl Try.sizeOf3 (by decide)) ?_
      refine Jp.y 22 rfl (want_all rfl) rfl rfl Kp.true (by first | exact Y.loadO 0 rfl Try.isAgg3 rfl rfl rfl | exact Y.loadR rfl Try.isAgg3 rfl hcell) ?_
      refine Jp.y 23 rfl (want_all rfl) rfl rfl Kp.true (Y.add_ rfl rfl rfl (by first | exact wrap_i64 (by omega) (by omega) | rfl)) ?_
      refine Jp.y 24 rfl (want_all rfl) rfl rfl Kp.true (Y.nilCheck rfl rfl) ?_
      refine Jp.y 25 rfl (want_all rfl) rfl rfl Kp.true (by first | exact Y.fieldAddrP rfl rfl Try.underlying55 rfl Try.sizeOf3 (by decide) (show _ + 6 = _ from rfl) | exact Y.fieldAddr rfl rfl Try.underlying55 rfl Try.sizeOf3 (by decide)) ?_
      refine Jp.store 0 rfl (want_all rfl) rfl rfl Try.sizeOf3 rfl rfl rfl rfl rfl rfl Kp.true ?_
      refine Jp.done hK9 ?_
      refine Cd.seq fun K10 hK10 => ?_
      refine Cd.seq fun K11 hK11 => ?_
      refine Cd.drawn [(0, _)] ⟨rfl, trivial⟩ [(0, true), (1, true), (2, true), (3, true), (4, true), (5, true), (6, true), (7, true), (8, true), (9, true), (10, true), (11, true), (12, true), (13, true)] follows (by kernel_rfl) (fun hrl => ?_)
      refine Jp.q 26 rfl (want_all rfl) rfl rfl (Y.move rfl rfl) ?_
      refine Jp.q 27 rfl (want_all rfl) rfl rfl (Y.nilCheck rfl rfl) ?_
      refine Jp.q 28 rfl (want_all rfl) rfl rfl (by first | exact Y.fieldAddrP rfl rfl Try.underlying55 rfl Try.sizeOf38 (by decide) (show _ + 0 = _ from rfl) | exact Y.fieldAddr rfl rfl Try.underlying55 rfl Try.sizeOf38 (by decide)) ?_
      refine Jp.q 29 rfl (want_all rfl) rfl rfl (by first | exact Y.fieldAddrP rfl rfl Try.underlying38 rfl Try.sizeOf24 (by decide) (show _ + 2 = _ from rfl) | exact Y.fieldAddr rfl rfl Try.underlying38 rfl Try.sizeOf24 (by decide)) ?_
      refine Jp.q 30 rfl (want_all rfl) rfl rfl (by first | exact Y.loadO 0 rfl Try.isAgg24 rfl rfl rfl | exact Y.loadR rfl Try.isAgg24 rfl hcell) ?_
      refine Jp.q 31 rfl (want_all rfl) rfl rfl (Y.move rfl rfl) ?_
      refine Jp.q 32 rfl (want_all rfl) rfl rfl (Y.nilCheck rfl rfl) ?_
      refine Jp.q 33 rfl (want_all rfl) rfl rfl (by first | exact Y.fieldAddrP rfl rfl Try.underlying55 rfl Try.sizeOf3 (by decide) (show _ + 6 = _ from rfl) | exact Y.fieldAddr rfl rfl Try.underlying55 rfl Try.sizeOf3 (by decide)) ?_
      refine Jp.q 34 rfl (want_all rfl) rfl rfl (by first | exact Y.loadO 0 rfl Try.isAgg3 rfl rfl rfl | exact Y.loadR rfl Try.isAgg3 rfl hcell) ?_
      refine Jp.q 35 rfl (want_all rfl) rfl rfl (Y.sub_ rfl rfl rfl (by first | exact wrap_i64 (by omega) (by omega) | rfl)) ?_
      refine Jp.q 36 rfl (want_all rfl) rfl rfl (Y.indexAddr (q := k) rfl rfl rfl Try.underlying24 Try.sizeOf3 (by omega) (by omega) (by omega)) ?_
      refine Jp.q 37 rfl (want_all rfl) rfl rfl (by first | exact Y.loadO 0 rfl Try.isAgg3 rfl rfl rfl | exact Y.loadR rfl Try.isAgg3 rfl hcell) ?_
      refine Jp.q 38 rfl (want_all rfl) rfl rfl (Y.move rfl rfl) ?_
      refine Jp.q 39 rfl (want_all rfl) rfl rfl (Y.lss rfl rfl rfl) ?_
      refine Jp.done hK11 ?_
      refine Cd.cond rfl (fun gc => ?_) (fun gc => ?_)
      · simp only [decide_eq_true_eq] at gc
        refine Cd.drawn [(0, _)] ⟨rfl, trivial⟩ [(0, true), (1, true), (2, true), (3, true), (4, true), (5, true), (6, true), (7, true), (8, true), (9, true), (10, true), (11, true), (12, true)] follows (by kernel_rfl) (fun hrl => ?_)
        refine Jp.q 40 rfl (want_all rfl) rfl rfl (Y.move rfl rfl) ?_
        refine Jp.q 41 rfl (want_all rfl) rfl rfl (Y.nilCheck rfl rfl) ?_
        refine Jp.q 42 rfl (want_all rfl) rfl rfl (by first | exact Y.fieldAddrP rfl rfl Try.underlying55 rfl Try.sizeOf38 (by decide) (show _ + 0 = _ from rfl) | exact Y.fieldAddr rfl rfl Try.underlying55 rfl Try.sizeOf38 (by decide)) ?_
        refine Jp.q 43 rfl (want_all rfl) rfl rfl (by first | exact Y.fieldAddrP rfl rfl Try.underlying38 rfl Try.sizeOf24 (by decide) (show _ + 2 = _ from rfl) | exact Y.fieldAddr rfl rfl Try.underlying38 rfl Try.sizeOf24 (by decide)) ?_
        refine Jp.q 44 rfl (want_all rfl) rfl rfl (by first | exact Y.loadO 0 rfl Try.isAgg24 rfl rfl rfl | exact Y.loadR rfl Try.isAgg24 rfl hcell) ?_
        refine Jp.q 45 rfl (want_all rfl) rfl rfl (Y.move rfl rfl) ?_
        refine Jp.q 46 rfl (want_all rfl) rfl rfl (Y.nilCheck rfl rfl) ?_
        refine Jp.q 47 rfl (want_all rfl) rfl rfl (by first | exact Y.fieldAddrP rfl rfl Try.underlying55 rfl Try.sizeOf3 (by decide) (show _ + 6 = _ from rfl) | exact Y.fieldAddr rfl rfl Try.underlying55 rfl Try.sizeOf3 (by decide)) ?_
        refine Jp.q 48 rfl (want_all rfl) rfl rfl (by first | exact Y.loadO 0 rfl Try.isAgg3 rfl rfl rfl | exact Y.loadR rfl Try.isAgg3 rfl hcell) ?_
        refine Jp.q 49 rfl (want_all rfl) rfl rfl (Y.sub_ rfl rfl rfl (by first | exact wrap_i64 (by omega) (by omega) | rfl)) ?_
        refine Jp.q 50 rfl (want_all rfl) rfl rfl (Y.indexAddr (q := k) rfl rfl rfl Try.underlying24 Try.sizeOf3 (by omega) (by omega) (by omega)) ?_
        refine Jp.q 51 rfl (want_all rfl) rfl rfl (by first | exact Y.loadO 0 rfl Try.isAgg3 rfl rfl rfl | exact Y.loadR rfl Try.isAgg3 rfl hcell) ?_
        refine Jp.q 1 rfl (want_all rfl) rfl rfl (Y.assign rfl rfl) ?_
        refine Jp.done hK10 ?_
        refine Cd.seq fun K14 hK14 => ?_
        refine Cd.plain [(0, false), (1, false)] rfl rfl ?_
        refine Jp.y 52 rfl (want_all rfl) rfl rfl Kp.true (Y.move rfl rfl) ?_
        refine Jp.y 4 rfl (want_all rfl) rfl rfl Kp.true (Y.assign rfl rfl) ?_
        refine Jp.done hK14 ?_
        refine Cd.ret [(0, _)] rfl (res1 rfl rfl) ⟨rfl, trivial⟩ ?_
        exact ⟨rfl, by rw [e, if_pos gc], ⟨⟨args, input, ⟨some ad, cs, xs⟩, random, clock, files⟩, k + 1, kb, kc⟩, rfl, { hr with l1 := hlt }, by rw [e], rfl⟩
      · simp only [decide_eq_false_iff_not] at gc
        refine Cd.skip hK10 ?_
        refine Cd.seq fun K15 hK15 => ?_
        refine Cd.plain [(0, false), (1, false)] rfl rfl ?_
        refine Jp.y 52 rfl (want_all rfl) rfl rfl Kp.true (Y.move rfl rfl) ?_
        refine Jp.y 4 rfl (want_all rfl) rfl rfl Kp.true (Y.assign rfl rfl) ?_
        refine Jp.done hK15 ?_
        refine Cd.ret [(0, _)] rfl (res1 rfl rfl) ⟨rfl, trivial⟩ ?_
        exact ⟨rfl, by rw [e, if_neg gc], ⟨⟨args, input, ⟨some ad, cs, xs⟩, random, clock, files⟩, k + 1, kb, kc⟩, rfl, { hr with l1 := hlt }, by rw [e], rfl⟩
theorem refBegin2_spec (f : FeedG) : Spec Try.prog 27 #[.agg f.cells.toArray] (RdFeed f) [] (fun ρ ρ' v L => ρ' = ρ ∧ ∃ b u, v = .pointer (some ⟨b, 0, none⟩) ∧ L = [(0, RefPt b u)] ∧ RdRef u ρ' ∧ u = ⟨if good f.p then f else feed0, 0, 0, 0⟩) := by
  obtain ⟨args, input, short, random, clock, files⟩ := f
  refine Spec.of 10 Try.func27 rfl Try.ntmps27 [(0, _)] rfl rfl ?_
  intro cx ρ hr h0
  refine Cd.seq fun K16 hK16 => ?_
  refine Cd.plain [(0, false), (1, false)] rfl rfl ?_
  refine Jp.box 50 1 rfl (want_all rfl) rfl rfl rfl rfl fun b50 => ⟨Kp.true, ?_⟩
  refine Jp.y 2 rfl (want_all rfl) rfl rfl Kp.true (Y.assign rfl rfl) ?_
  refine Jp.done hK16 ?_
  refine Cd.seq fun K17 hK17 => ?_
  refine Cd.seq fun K18 hK18 => ?_
  refine Cd.plain [(0, false), (1, false), (2, false)] rfl rfl ?_
  refine Jp.y 3 rfl (want_all rfl) rfl rfl Kp.true (by first | exact Y.loadAggO 50 rfl Try.isAgg38 Try.sizeOf38 rfl rfl rfl | exact Y.loadAggO 50 rfl Try.isAgg38 Try.sizeOf38 rfl rfl rfl) ?_
  refine Jp.call [] [] (f42_spec ⟨args, input, short, random, clock, files⟩) 4 rfl (want_all rfl) rfl rfl (Runs.fn rfl Try.call42 rfl) (by decide) (by decide) rfl hr ?_
  rintro v1 ρ1 L1 ⟨rfl, rfl, rfl⟩
  refine ⟨rfl, fun hle1 => ⟨Kp.true, ?_⟩⟩
  refine Jp.y 5 rfl (want_all rfl) rfl rfl Kp.true (Y.not rfl rfl) ?_
  refine Jp.done hK18 ?_
  refine Cd.cond rfl (fun hg => ?_) (fun hg => ?_)
  · rw [Bool.not_eq_true'] at hg
    refine Cd.plain [(0, false), (1, false)] rfl rfl ?_
    refine Jp.y 6 rfl (want_all rfl) rfl rfl Kp.true (Y.struct [] [_, _, _, _, _, _] rfl rfl places38 Try.zeroValue38 rfl) ?_
    first | refine Jp.storeAgg 50 rfl (want_all rfl) rfl rfl Try.sizeOf38 rfl rfl rfl rfl rfl rfl (fun k _ _ => noFr0 k) Kp.true ?_ | refine Jp.storeAgg 50 rfl (want_all rfl) rfl rfl Try.sizeOf38 rfl rfl rfl rfl rfl rfl (fun k _ _ => noFr0 k) Kp.true ?_
    refine Jp.done hK17 ?_
    refine Cd.seq fun K19 hK19 => ?_
    refine Cd.plain [(0, false), (1, false), (2, false), (3, false)] rfl rfl ?_
    refine Jp.y 7 rfl (want_all rfl) rfl rfl Kp.true (by first | exact Y.loadAggO 50 rfl Try.isAgg38 Try.sizeOf38 rfl rfl rfl | exact Y.loadAggO 50 rfl Try.isAgg38 Try.sizeOf38 rfl rfl rfl) ?_
    refine Jp.y 8 rfl (want_all rfl) rfl rfl Kp.true (Y.struct [(0, _)] [_, _, _, _, _, _, _, _, _] rfl rfl places55 Try.zeroValue55 rfl) ?_
    refine Jp.box 0 9 rfl (want_all rfl) rfl rfl rfl rfl fun b0 => ⟨Kp.true, ?_⟩
    refine Jp.y 2 rfl (want_all rfl) rfl rfl Kp.true (Y.assign rfl rfl) ?_
    refine Jp.done hK19 ?_
    refine Cd.ret [(0, _)] rfl (res1 rfl rfl) ⟨rfl, trivial⟩ ?_
    exact ⟨rfl, b0, ⟨feed0, 0, 0, 0⟩, rfl, rfl, ⟨RdS.nil 1 _, RdS.nil 1 _, RdS.nil 1 _, by simp, by simp, by simp, by simp [feed0], by simp [feed0], by simp [feed0]⟩, by rw [show good (FeedG.p ⟨args, input, short, random, clock, files⟩) = _ from hg]; rfl⟩
  · rw [Bool.not_eq_false'] at hg
    obtain ⟨hb1, hb2, hb3, _⟩ := good_bounds hg
    have hb1 : short.xs.length ≤ 64 := hb1
    have hb2 : clock.xs.length ≤ 64 := hb2
    have hb3 : random.xs.length ≤ 4096 := hb3
    refine Cd.skip hK17 ?_
    refine Cd.seq fun K20 hK20 => ?_
    refine Cd.plain [(0, false), (1, false), (2, false), (3, false)] rfl rfl ?_
    refine Jp.y 7 rfl (want_all rfl) rfl rfl Kp.true (by first | exact Y.loadAggO 50 rfl Try.isAgg38 Try.sizeOf38 rfl rfl rfl | exact Y.loadAggO 50 rfl Try.isAgg38 Try.sizeOf38 rfl rfl rfl | exact Y.loadAggO 0 rfl Try.isAgg38 Try.sizeOf38 rfl rfl rfl) ?_
    refine Jp.y 8 rfl (want_all rfl) rfl rfl Kp.true (Y.struct [(0, _)] [_, _, _, _, _, _, _, _, _] rfl rfl places55 Try.zeroValue55 rfl) ?_
    refine Jp.box 0 9 rfl (want_all rfl) rfl rfl rfl rfl fun b0 => ⟨Kp.true, ?_⟩
    refine Jp.y 2 rfl (want_all rfl) rfl rfl Kp.true (Y.assign rfl rfl) ?_
    refine Jp.done hK20 ?_
    refine Cd.ret [(0, _)] rfl (res1 rfl rfl) ⟨rfl, trivial⟩ ?_
    exact ⟨rfl, b0, ⟨⟨args, input, short, random, clock, files⟩, 0, 0, 0⟩, rfl, rfl, ⟨hr.short, hr.random, hr.clock, Nat.zero_le _, Nat.zero_le _, Nat.zero_le _, by show short.xs.length ≤ 4096; omega, hb3, by show clock.xs.length ≤ 4096; omega⟩, by rw [show good (FeedG.p ⟨args, input, short, random, clock, files⟩) = _ from hg]; rfl⟩
theorem fee11_spec (f : FeedG) (hf : f.files.xs.length ≤ 10) : Spec Try.prog 8 #[.agg f.cells.toArray] (RdFeed f) [] (fun ρ ρ' v L => ρ' = ρ ∧ ∃ A c, v = .agg #[f.args.v, f.input.v, f.short.v, f.random.v, f.clock.v, .slice A f.files.xs.length c] ∧ L = [(0, OwnS 75 2 A f.files.xs.length c (filesV f.files.xs))]) := by
  obtain ⟨args, input, short, random, clock, ⟨Af, cf, xf⟩⟩ := f
  have hf : xf.length ≤ 10 := hf
  dsimp only [FeedG.cells, Sl.v]
  refine Spec.of 42 Try.func8 rfl Try.ntmps8 [(0, _)] rfl rfl ?_
  intro cx ρ hr h0
  have hR : RdS 2 Af xf.length cf (filesV xf) ρ := hr.files.1
  refine Cd.seq fun K21 hK21 => ?_
  refine Cd.plain [(0, false), (1, false)] rfl rfl ?_
  refine Jp.box 50 1 rfl (want_all rfl) rfl rfl rfl rfl fun b50 => ⟨Kp.true, ?_⟩
  refine Jp.alloc 51 2 rfl (want_all rfl) rfl rfl rfl Try.zeroValue38 fun b51 => ⟨Kp.true, ?_⟩
  refine Jp.done hK21 ?_
  refine Cd.seq fun K22 hK22 => ?_
  refine Cd.plain [(0, false), (1, false), (2, false), (3, false), (4, false), (5, false), (6, false), (7, false), (8, false), (9, false), (10, false), (11, false), (12, false)] rfl rfl ?_
  refine Jp.y 5 rfl (want_all rfl) rfl rfl Kp.true (by first | exact Y.fieldAddrP rfl rfl Try.underlying28 rfl Try.sizeOf22 (by decide) (show _ + 0 = _ from rfl) | exact Y.fieldAddr rfl rfl Try.underlying28 rfl Try.sizeOf22 (by decide)) ?_
  refine Jp.y 6 rfl (want_all rfl) rfl rfl Kp.true (by first | exact Y.loadO 50 rfl Try.isAgg22 rfl rfl rfl | exact Y.loadO 51 rfl Try.isAgg22 rfl rfl rfl) ?_
  refine Jp.y 7 rfl (want_all rfl) rfl rfl Kp.true (by first | exact Y.fieldAddrP rfl rfl Try.underlying28 rfl Try.sizeOf23 (by decide) (show _ + 1 = _ from rfl) | exact Y.fieldAddr rfl rfl Try.underlying28 rfl Try.sizeOf23 (by decide)) ?_
  refine Jp.y 8 rfl (want_all rfl) rfl rfl Kp.true (by first | exact Y.loadO 50 rfl Try.isAgg23 rfl rfl rfl | exact Y.loadO 51 rfl Try.isAgg23 rfl rfl rfl) ?_
  refine Jp.y 9 rfl (want_all rfl) rfl rfl Kp.true (by first | exact Y.fieldAddrP rfl rfl Try.underlying28 rfl Try.sizeOf24 (by decide) (show _ + 2 = _ from rfl) | exact Y.fieldAddr rfl rfl Try.underlying28 rfl Try.sizeOf24 (by decide)) ?_
  refine Jp.y 10 rfl (want_all rfl) rfl rfl Kp.true (by first | exact Y.loadO 50 rfl Try.isAgg24 rfl rfl rfl | exact Y.loadO 51 rfl Try.isAgg24 rfl rfl rfl) ?_
  refine Jp.y 11 rfl (want_all rfl) rfl rfl Kp.true (by first | exact Y.fieldAddrP rfl rfl Try.underlying28 rfl Try.sizeOf23 (by decide) (show _ + 3 = _ from rfl) | exact Y.fieldAddr rfl rfl Try.underlying28 rfl Try.sizeOf23 (by decide)) ?_
  refine Jp.y 12 rfl (want_all rfl) rfl rfl Kp.true (by first | exact Y.loadO 50 rfl Try.isAgg23 rfl rfl rfl | exact Y.loadO 51 rfl Try.isAgg23 rfl rfl rfl) ?_
  refine Jp.y 13 rfl (want_all rfl) rfl rfl Kp.true (by first | exact Y.fieldAddrP rfl rfl Try.underlying28 rfl Try.sizeOf25 (by decide) (show _ + 4 = _ from rfl) | exact Y.fieldAddr rfl rfl Try.underlying28 rfl Try.sizeOf25 (by decide)) ?_
  refine Jp.y 14 rfl (want_all rfl) rfl rfl Kp.true (by first | exact Y.loadO 50 rfl Try.isAgg25 rfl rfl rfl | exact Y.loadO 51 rfl Try.isAgg25 rfl rfl rfl) ?_
  refine Jp.y 15 rfl (want_all rfl) rfl rfl Kp.true (Y.struct [(0, _), (1, _), (2, _), (3, _), (4, _)] [_, _, _, _, _, _] rfl rfl places38 Try.zeroValue38 rfl) ?_
  refine Jp.alloc 52 3 rfl (want_all rfl) rfl rfl rfl Try.zeroValue38 fun b52 => ⟨Kp.true, ?_⟩
  first | refine Jp.storeAgg 50 rfl (want_all rfl) rfl rfl Try.sizeOf38 rfl rfl rfl rfl rfl rfl (fun k _ _ => noFr0 k) Kp.true ?_ | refine Jp.storeAgg 51 rfl (want_all rfl) rfl rfl Try.sizeOf38 rfl rfl rfl rfl rfl rfl (fun k _ _ => noFr0 k) Kp.true ?_ | refine Jp.storeAgg 52 rfl (want_all rfl) rfl rfl Try.sizeOf38 rfl rfl rfl rfl rfl rfl (fun k _ _ => noFr0 k) Kp.true ?_
  refine Jp.done hK22 ?_
  refine Cd.seq fun K23 hK23 => ?_
  refine Cd.seq fun K24 hK24 => ?_
  refine Cd.plain [(0, false)] rfl rfl ?_
  refine Jp.y 4 rfl (want_all rfl) rfl rfl Kp.true (Y.assign rfl rfl) ?_
  refine Jp.done hK24 ?_
  refine Cd.block ?_
  refine Cd.make 0 (show OwnS 75 2 none 0 0 (filesV (xf.take 0)) Hp.emp from OwnS.nil 75 2 Hp.emp) ?_
  refine Cd.loop (G := Nat × Option Addr × Nat) (fun g => g.1 ≤ xf.length) (fun g => xf.length - g.1) (fun _ => ρ) (fun g => [(1, .pointer (some ⟨b50, 0, none⟩)), (2, .pointer (some ⟨b51, 0, none⟩)), (3, .pointer (some ⟨b52, 0, none⟩)), (4, .int .i64 g.1)]) (fun g => [(50, Pt b50 (.cells #[args.v, input.v, short.v, random.v, clock.v, .slice Af xf.length cf] 28)), (51, Pt b51 (.cells #[.slice none 0 0, .slice none 0 0, .slice none 0 0, .slice none 0 0, .slice none 0 0, .slice none 0 0] 38)), (52, Pt b52 (.cells #[args.v, input.v, short.v, random.v, clock.v, .slice g.2.1 g.1 g.2.2] 38)), (0, OwnS 75 2 g.2.1 g.1 g.2.2 (filesV (xf.take g.1)))]) (0, none, 0) (Nat.zero_le _) rfl ⟨rfl, rfl, rfl, rfl, trivial⟩ ⟨rfl, rfl, rfl, rfl, trivial⟩ (fun g KLa hok hLa => ?_)
  obtain ⟨k, A, c⟩ := g
  dsimp only at hok ⊢
  refine Cd.seq fun K25 hK25 => ?_
  refine Cd.seq fun K26 hK26 => ?_
  refine Cd.plain [(0, false), (1, false), (2, false), (3, false), (4, false)] rfl rfl ?_
  refine Jp.y 16 rfl (want_all rfl) rfl rfl Kp.true (Y.move rfl rfl) ?_
  refine Jp.y 17 rfl (want_all rfl) rfl rfl Kp.true (by first | exact Y.fieldAddrP rfl rfl Try.underlying28 rfl Try.sizeOf26 (by decide) (show _ + 5 = _ from rfl) | exact Y.fieldAddr rfl rfl Try.underlying28 rfl Try.sizeOf26 (by decide)) ?_
  refine Jp.y 18 rfl (want_all rfl) rfl rfl Kp.true (by first | exact Y.loadO 50 rfl Try.isAgg26 rfl rfl rfl | exact Y.loadO 51 rfl Try.isAgg26 rfl rfl rfl | exact Y.loadO 52 rfl Try.isAgg26 rfl rfl rfl) ?_
  refine Jp.y 19 rfl (want_all rfl) rfl rfl Kp.true (Y.lenslice rfl Try.underlying26 rfl) ?_
  refine Jp.y 20 rfl (want_all rfl) rfl rfl Kp.true (Y.lss rfl rfl rfl) ?_
  refine Jp.done hK26 ?_
  refine Cd.cond rfl (fun ga => ?_) (fun ga => ?_)
  · simp only [decide_eq_true_eq] at ga
    have hk : k < xf.length := by omega
    obtain ⟨ad, rfl⟩ := hR.some (show 0 < xf.length * 2 by omega)
    have hkx : xf[k]? = some xf[k] := by simp [hk]
    have hc0 : cellH ρ ((ad.add (k * 2)).add 0) = some (.string xf[k].name) := hr.files.at rfl hkx 0 _ rfl
    have hc1 : cellH ρ ((ad.add (k * 2)).add 1) = some xf[k].data.v := hr.files.at rfl hkx 1 _ rfl
    refine Cd.skip hK25 ?_
    refine Cd.seq fun K27 hK27 => ?_
    refine Cd.block ?_
    refine Cd.drawn [(50, _), (52, _)] ⟨rfl, rfl, trivial⟩ [(0, true), (1, true), (2, true), (3, true), (4, true), (5, true), (6, true), (7, true), (8, true), (9, true), (10, true), (11, true), (12, true), (13, true), (14, true), (15, false), (16, false), (17, true), (18, false)] follows (by kernel_rfl) (fun hrl => ?_)
    refine Jp.q 23 rfl (want_all rfl) rfl rfl (by first | exact Y.fieldAddrP rfl rfl Try.underlying38 rfl Try.sizeOf36 (by decide) (show _ + 5 = _ from rfl) | exact Y.fieldAddr rfl rfl Try.underlying38 rfl Try.sizeOf36 (by decide)) ?_
    refine Jp.q 24 rfl (want_all rfl) rfl rfl (by first | exact Y.loadO 50 rfl Try.isAgg36 rfl rfl rfl | exact Y.loadO 51 rfl Try.isAgg36 rfl rfl rfl | exact Y.loadO 52 rfl Try.isAgg36 rfl rfl rfl | exact Y.loadR rfl Try.isAgg36 rfl hc0 | exact Y.loadR rfl Try.isAgg36 rfl hc1) ?_
    refine Jp.q 25 rfl (want_all rfl) rfl rfl (by first | exact Y.fieldAddrP rfl rfl Try.underlying28 rfl Try.sizeOf26 (by decide) (show _ + 5 = _ from rfl) | exact Y.fieldAddr rfl rfl Try.underlying28 rfl Try.sizeOf26 (by decide)) ?_
    refine Jp.q 26 rfl (want_all rfl) rfl rfl (by first | exact Y.loadO 50 rfl Try.isAgg26 rfl rfl rfl | exact Y.loadO 51 rfl Try.isAgg26 rfl rfl rfl | exact Y.loadO 52 rfl Try.isAgg26 rfl rfl rfl | exact Y.loadR rfl Try.isAgg26 rfl hc0 | exact Y.loadR rfl Try.isAgg26 rfl hc1) ?_
    refine Jp.q 27 rfl (want_all rfl) rfl rfl (Y.move rfl rfl) ?_
    refine Jp.q 28 rfl (want_all rfl) rfl rfl (Y.indexAddr (q := k * 2) rfl rfl rfl Try.underlying26 Try.sizeOf63 (by omega) (by omega) (by omega)) ?_
    refine Jp.q 29 rfl (want_all rfl) rfl rfl (by first | exact Y.fieldAddrP rfl rfl Try.underlying63 rfl Try.sizeOf9 (by decide) (show _ + 0 = _ from rfl) | exact Y.fieldAddr rfl rfl Try.underlying63 rfl Try.sizeOf9 (by decide)) ?_
    refine Jp.q 30 rfl (want_all rfl) rfl rfl (by first | exact Y.loadO 50 rfl Try.isAgg9 rfl rfl rfl | exact Y.loadO 51 rfl Try.isAgg9 rfl rfl rfl | exact Y.loadO 52 rfl Try.isAgg9 rfl rfl rfl | exact Y.loadR rfl Try.isAgg9 rfl hc0 | exact Y.loadR rfl Try.isAgg9 rfl hc1) ?_
    refine Jp.q 31 rfl (want_all rfl) rfl rfl (by first | exact Y.fieldAddrP rfl rfl Try.underlying28 rfl Try.sizeOf26 (by decide) (show _ + 5 = _ from rfl) | exact Y.fieldAddr rfl rfl Try.underlying28 rfl Try.sizeOf26 (by decide)) ?_
    refine Jp.q 32 rfl (want_all rfl) rfl rfl (by first | exact Y.loadO 50 rfl Try.isAgg26 rfl rfl rfl | exact Y.loadO 51 rfl Try.isAgg26 rfl rfl rfl | exact Y.loadO 52 rfl Try.isAgg26 rfl rfl rfl | exact Y.loadR rfl Try.isAgg26 rfl hc0 | exact Y.loadR rfl Try.isAgg26 rfl hc1) ?_
    refine Jp.q 33 rfl (want_all rfl) rfl rfl (Y.move rfl rfl) ?_
    refine Jp.q 34 rfl (want_all rfl) rfl rfl (Y.indexAddr (q := k * 2) rfl rfl rfl Try.underlying26 Try.sizeOf63 (by omega) (by omega) (by omega)) ?_
    refine Jp.q 35 rfl (want_all rfl) rfl rfl (by first | exact Y.fieldAddrP rfl rfl Try.underlying63 rfl Try.sizeOf23 (by decide) (show _ + 1 = _ from rfl) | exact Y.fieldAddr rfl rfl Try.underlying63 rfl Try.sizeOf23 (by decide)) ?_
    refine Jp.q 36 rfl (want_all rfl) rfl rfl (by first | exact Y.loadO 50 rfl Try.isAgg23 rfl rfl rfl | exact Y.loadO 51 rfl Try.isAgg23 rfl rfl rfl | exact Y.loadO 52 rfl Try.isAgg23 rfl rfl rfl | exact Y.loadR rfl Try.isAgg23 rfl hc0 | exact Y.loadR rfl Try.isAgg23 rfl hc1) ?_
    refine Jp.q 37 rfl (want_all rfl) rfl rfl (Y.struct [(0, _), (1, _)] [_, _] rfl rfl places75 Try.zeroValue75 rfl) ?_
    refine Jp.lit 38 2 [(0, _)] [_, _] rfl (want_all rfl) rfl rfl rfl rfl Try.underlying36 Try.sizeOf75 Try.zeroValue75 rfl rfl rfl rfl rfl fun b2 => ⟨(Kp.st ⟨rfl, rfl, trivial⟩), ?_⟩
    refine Jp.append 39 0 rfl (want_all rfl) rfl rfl rfl Try.underlying36 Try.underlying36 (.inl ⟨_, rfl⟩) Try.sizeOf75 Try.typeInfo75 Try.zeroValue75 rfl (by decide) rfl rfl rfl (Src.own 2 rfl) rfl (k + 1) (filesV (xf.take (k + 1))) (by first | omega | simp) (filesV_snoc hk) (by simp only [Try.t75]; omega) fun A1 c1 => ⟨(Kp.st ⟨rfl, rfl, trivial⟩), ?_⟩
    refine Jp.q 40 rfl (want_all rfl) rfl rfl (by first | exact Y.fieldAddrP rfl rfl Try.underlying38 rfl Try.sizeOf36 (by decide) (show _ + 5 = _ from rfl) | exact Y.fieldAddr rfl rfl Try.underlying38 rfl Try.sizeOf36 (by decide)) ?_
    first | refine Jp.store 50 rfl (want_all rfl) rfl rfl Try.sizeOf36 rfl rfl rfl rfl rfl rfl Kp.last ?_ | refine Jp.store 51 rfl (want_all rfl) rfl rfl Try.sizeOf36 rfl rfl rfl rfl rfl rfl Kp.last ?_ | refine Jp.store 52 rfl (want_all rfl) rfl rfl Try.sizeOf36 rfl rfl rfl rfl rfl rfl Kp.last ?_ | refine Jp.store 2 rfl (want_all rfl) rfl rfl Try.sizeOf36 rfl rfl rfl rfl rfl rfl Kp.last ?_
    refine Jp.over rfl hK27 ?_
    refine Cd.plain [(0, false), (1, false), (2, false)] rfl rfl ?_
    refine Jp.y 21 rfl (want_all rfl) rfl rfl Kp.true (Y.move rfl rfl) ?_
    refine Jp.y 22 rfl (want_all rfl) rfl rfl Kp.true (Y.add_ rfl rfl rfl (by first | exact wrap_i64 (by omega) (by omega) | rfl)) ?_
    refine Jp.y 4 rfl (want_all rfl) rfl rfl Kp.true (Y.assign rfl rfl) ?_
    refine Jp.again hLa (k + 1, A1, c1) (by dsimp only; omega) (by dsimp only; omega) rfl ⟨rfl, rfl, rfl, rfl, trivial⟩ ⟨rfl, rfl, rfl, rfl, trivial⟩
  · simp only [decide_eq_false_iff_not] at ga
    obtain rfl : xf.length = k := by omega
    refine Cd.exit rfl hK23 ?_
    refine Cd.seq fun K29 hK29 => ?_
    refine Cd.plain [(0, false), (1, false)] rfl rfl ?_
    refine Jp.y 41 rfl (want_all rfl) rfl rfl Kp.true (by first | exact Y.loadAggO 50 rfl Try.isAgg38 Try.sizeOf38 rfl rfl rfl | exact Y.loadAggO 51 rfl Try.isAgg38 Try.sizeOf38 rfl rfl rfl | exact Y.loadAggO 52 rfl Try.isAgg38 Try.sizeOf38 rfl rfl rfl | exact Y.loadAggO 2 rfl Try.isAgg38 Try.sizeOf38 rfl rfl rfl) ?_
    first | refine Jp.storeAgg 50 rfl (want_all rfl) rfl rfl Try.sizeOf38 rfl rfl rfl rfl rfl rfl (fun k _ _ => noFr0 k) Kp.true ?_ | refine Jp.storeAgg 51 rfl (want_all rfl) rfl rfl Try.sizeOf38 rfl rfl rfl rfl rfl rfl (fun k _ _ => noFr0 k) Kp.true ?_ | refine Jp.storeAgg 52 rfl (want_all rfl) rfl rfl Try.sizeOf38 rfl rfl rfl rfl rfl rfl (fun k _ _ => noFr0 k) Kp.true ?_ | refine Jp.storeAgg 2 rfl (want_all rfl) rfl rfl Try.sizeOf38 rfl rfl rfl rfl rfl rfl (fun k _ _ => noFr0 k) Kp.true ?_
    refine Jp.done hK29 ?_
    refine Cd.ret [(0, _)] rfl (by first | exact resC1 50 rfl rfl Try.isAgg38 Try.sizeOf38 rfl rfl | exact resC1 51 rfl rfl Try.isAgg38 Try.sizeOf38 rfl rfl | exact resC1 52 rfl rfl Try.isAgg38 Try.sizeOf38 rfl rfl | exact resC1 2 rfl rfl Try.isAgg38 Try.sizeOf38 rfl rfl) ⟨rfl, trivial⟩ ?_
    exact ⟨rfl, A, c, rfl, by rw [List.take_of_length_le (Nat.le_refl _)]⟩
structure RfG where
  bu : Nat
  u : RefG
  A : Option Addr
  c : Nat
  l : List (Int × Int × Nat)
  o1 : Sl UInt8
  o2 : Sl UInt8
def openC (x : Int × Int × Nat) : List Value := [.int .i64 x.1, .int .i64 x.2.1, .int .i64 (x.2.2 : Int)]
def RfG.cells (r : RfG) : List Value := [.pointer (some ⟨r.bu, 0, none⟩), .slice r.A r.l.length r.c, r.o1.v, r.o2.v]
def RfPt (b : Nat) (r : RfG) : HProp := Pt b (.cells r.cells.toArray 60)
def RfOpen (r : RfG) : HProp := OwnS 74 3 r.A r.l.length r.c (r.l.flatMap openC)
theorem openC_rows (l : List (Int × Int × Nat)) : ∀ x ∈ l, (openC x).length = 3 := fun _ _ => rfl
def dataOf (u : RefG) (x : Int × Int × Nat) : Sl UInt8 := if x.2.1 = -1 then u.f.input else ((u.f.files.xs[x.2.1.toNat]?).map (·.data)).getD ⟨none, 0, []⟩
def filOf (u : RefG) (x : Int × Int × Nat) : FilP := if x.2.1 = -2 then ⟨[], 0, true⟩ else ⟨(dataOf u x).xs, x.2.2, false⟩
structure EntOk (n : Nat) (x : Int × Int × Nat) : Prop where
  kind : (x.2.1 = -2 ∧ (x.1 = 1 ∨ x.1 = 2)) ∨ x.2.1 = -1 ∨ (0 ≤ x.2.1 ∧ x.2.1 < n)
  at' : x.2.2 ≤ 4611686018427387904
structure Rel (p : FilesP) (r : RfG) : Prop where
  all : p.all = r.u.f.files.xs.map FileG.p
  use : p.use = r.u.p
  op : ∀ fd, gget p.op fd = (r.l.find? fun x => x.1 == fd).map (filOf r.u)
  len : p.op.length = r.l.length
  out1 : outFP p 1 = r.o1.xs
  out2 : outFP p 2 = r.o2.xs
  outs : ∀ fd, fd ≠ 1 → fd ≠ 2 → outFP p fd = []
  ent : ∀ x ∈ r.l, EntOk r.u.f.files.xs.length x
  once : (r.l.map (·.1)).Nodup
  names : (r.u.f.files.xs.map fun f => str f.name).Nodup
  few : r.l.length ≤ 16 ∧ r.u.f.files.xs.length ≤ 8
structure RdRf (r : RfG) (h : Hp) : Prop where
  use : RdRef r.u h
  input : RdB r.u.f.input h
  files : RdFiles r.u.f.files h
  o1 : RdB r.o1 h
  o2 : RdB r.o2 h
theorem RdRf.up (r : RfG) : Up (RdRf r) := fun h k l q => ⟨RdRef.up _ h k l q.use, RdB.up _ h k l q.input, RdFiles.up _ h k l q.files, RdB.up _ h k l q.o1, RdB.up _ h k l q.o2⟩
end Go.Proofs.Ytogkncmhonomdaa
