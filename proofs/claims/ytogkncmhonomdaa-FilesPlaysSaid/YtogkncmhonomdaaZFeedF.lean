import Derived.Test.YtogkncmhonomdaaZFeedE
set_option linter.unusedVariables false
set_option linter.unusedSimpArgs false
set_option maxRecDepth 100000
namespace Go.Proofs.Ytogkncmhonomdaa
open Go
structure UseP where
  short : List Int
  random : Bytes
  clock : List Int
  shorts : Nat
  bytes : Nat
  clocks : Nat
def beginP (f : FeedP) : UseP := if good f then ⟨f.short, f.random, f.clock, 0, 0, 0⟩ else ⟨[], [], [], 0, 0, 0⟩
structure UseG where
  short : Sl Int
  random : Sl UInt8
  clock : Sl Int
  shorts : Nat
  bytes : Nat
  clocks : Nat
def UseG.p (u : UseG) : UseP := ⟨u.short.xs, u.random.xs, u.clock.xs, u.shorts, u.bytes, u.clocks⟩
def UseG.cells (u : UseG) : List Value := [u.short.v, u.random.v, u.clock.v, .int .i64 u.shorts, .int .i64 u.bytes, .int .i64 u.clocks]
structure RdUse (u : UseG) (h : Hp) : Prop where
  short : RdI .i64 u.short h
  random : RdB u.random h
  clock : RdI .u32 u.clock h
  l1 : u.shorts ≤ u.short.xs.length
  l2 : u.bytes ≤ u.random.xs.length
  l3 : u.clocks ≤ u.clock.xs.length
  n1 : u.short.xs.length ≤ 4096
  n2 : u.random.xs.length ≤ 4096
  n3 : u.clock.xs.length ≤ 4096
theorem RdUse.up (u : UseG) : Up (RdUse u) := fun h k l r => { r with short := RdI.up _ _ h k l r.short, random := RdB.up _ h k l r.random, clock := RdI.up _ _ h k l r.clock }
def UsePt (b : Nat) (u : UseG) : HProp := Pt b (.cells u.cells.toArray 84)
theorem good_bounds {f : FeedP} (h : good f = true) : f.short.length ≤ 64 ∧ f.clock.length ≤ 64 ∧ f.random.length ≤ 4096 ∧ f.input.length ≤ 4096 := by
  simp only [good, Bool.and_eq_true, decide_eq_true_eq] at h
  omega
theorem f24_spec (f : FeedG) : Spec Try.prog 24 #[.agg f.cells.toArray] (RdFeed f) [] (fun ρ ρ' v L => ∃ b u, v = .pointer (some ⟨b, 0, none⟩) ∧ L = [(0, UsePt b u)] ∧ RdUse u ρ' ∧ u.p = beginP f.p) := by
  obtain ⟨args, input, short, random, clock, files⟩ := f
  refine Spec.of 19 Try.func24 rfl Try.ntmps24 [(0, _)] rfl rfl ?_
  intro cx ρ hr h0
  refine Cd.seq fun K1 hK1 => ?_
  refine Cd.plain [(0, false), (1, false)] rfl rfl ?_
  refine Jp.box 50 1 rfl (want_all rfl) rfl rfl rfl rfl fun b50 => ⟨Kp.true, ?_⟩
  refine Jp.y 2 rfl (want_all rfl) rfl rfl Kp.true (Y.assign rfl rfl) ?_
  refine Jp.done hK1 ?_
  refine Cd.seq fun K2 hK2 => ?_
  refine Cd.seq fun K3 hK3 => ?_
  refine Cd.plain [(0, false), (1, false), (2, false)] rfl rfl ?_
  refine Jp.y 3 rfl (want_all rfl) rfl rfl Kp.true (by first | exact Y.loadAggO 50 rfl Try.isAgg28 Try.sizeOf28 rfl rfl rfl | exact Y.loadAggO 50 rfl Try.isAgg28 Try.sizeOf28 rfl rfl rfl) ?_
  refine Jp.call [] [] (f25_spec ⟨args, input, short, random, clock, files⟩) 4 rfl (want_all rfl) rfl rfl (Runs.fn rfl Try.call25 rfl) (by decide) (by decide) rfl hr ?_
  rintro v1 ρ1 L1 ⟨rfl, rfl, rfl⟩
  refine ⟨rfl, fun hle1 => ⟨Kp.true, ?_⟩⟩
  refine Jp.y 5 rfl (want_all rfl) rfl rfl Kp.true (Y.not rfl rfl) ?_
  refine Jp.done hK3 ?_
  refine Cd.cond rfl (fun hg => ?_) (fun hg => ?_)
  · rw [Bool.not_eq_true'] at hg
    refine Cd.seq fun K4 hK4 => ?_
    refine Cd.plain [(0, false), (1, false), (2, false)] rfl rfl ?_
    refine Jp.y 6 rfl (want_all rfl) rfl rfl Kp.true (Y.struct [] [_, _, _, _, _, _] rfl rfl places84 Try.zeroValue84 rfl) ?_
    refine Jp.box 0 7 rfl (want_all rfl) rfl rfl rfl rfl fun b0 => ⟨Kp.true, ?_⟩
    refine Jp.y 2 rfl (want_all rfl) rfl rfl Kp.true (Y.assign rfl rfl) ?_
    refine Jp.done hK4 ?_
    refine Cd.ret [(0, _)] rfl (res1 rfl rfl) ⟨rfl, trivial⟩ ?_
    exact ⟨b0, ⟨⟨none, 0, []⟩, ⟨none, 0, []⟩, ⟨none, 0, []⟩, 0, 0, 0⟩, rfl, rfl, ⟨RdS.nil 1 _, RdS.nil 1 _, RdS.nil 1 _, by simp, by simp, by simp, by simp, by simp, by simp⟩, by rw [beginP, hg]; rfl⟩
  · rw [Bool.not_eq_false'] at hg
    obtain ⟨hb1, hb2, hb3, _⟩ := good_bounds hg
    have hb1 : short.xs.length ≤ 64 := hb1
    have hb2 : clock.xs.length ≤ 64 := hb2
    have hb3 : random.xs.length ≤ 4096 := hb3
    refine Cd.skip hK2 ?_
    refine Cd.seq fun K5 hK5 => ?_
    refine Cd.drawn [(50, _)] ⟨rfl, trivial⟩ [(0, true), (1, true), (3, true), (4, true), (6, true), (7, true), (2, false), (5, false), (8, false), (9, true), (10, false), (11, true)] follows (by kernel_rfl) (fun hrl => ?_)
    refine Jp.q 8 rfl (want_all rfl) rfl rfl (by first | exact Y.fieldAddrP rfl rfl Try.underlying28 rfl Try.sizeOf24 (by decide) (show _ + 2 = _ from rfl) | exact Y.fieldAddr rfl rfl Try.underlying28 rfl Try.sizeOf24 (by decide)) ?_
    refine Jp.q 9 rfl (want_all rfl) rfl rfl (by first | exact Y.loadO 50 rfl Try.isAgg24 rfl rfl rfl | exact Y.loadO 50 rfl Try.isAgg24 rfl rfl rfl | exact Y.loadO 0 rfl Try.isAgg24 rfl rfl rfl) ?_
    refine Jp.q 11 rfl (want_all rfl) rfl rfl (by first | exact Y.fieldAddrP rfl rfl Try.underlying28 rfl Try.sizeOf23 (by decide) (show _ + 3 = _ from rfl) | exact Y.fieldAddr rfl rfl Try.underlying28 rfl Try.sizeOf23 (by decide)) ?_
    refine Jp.q 12 rfl (want_all rfl) rfl rfl (by first | exact Y.loadO 50 rfl Try.isAgg23 rfl rfl rfl | exact Y.loadO 50 rfl Try.isAgg23 rfl rfl rfl | exact Y.loadO 0 rfl Try.isAgg23 rfl rfl rfl) ?_
    refine Jp.q 14 rfl (want_all rfl) rfl rfl (by first | exact Y.fieldAddrP rfl rfl Try.underlying28 rfl Try.sizeOf25 (by decide) (show _ + 4 = _ from rfl) | exact Y.fieldAddr rfl rfl Try.underlying28 rfl Try.sizeOf25 (by decide)) ?_
    refine Jp.q 15 rfl (want_all rfl) rfl rfl (by first | exact Y.loadO 50 rfl Try.isAgg25 rfl rfl rfl | exact Y.loadO 50 rfl Try.isAgg25 rfl rfl rfl | exact Y.loadO 0 rfl Try.isAgg25 rfl rfl rfl) ?_
    refine Jp.call [] [1] (f36_spec short (by omega)) 10 rfl (want_all rfl) rfl rfl (Runs.fn rfl Try.call36 rfl) (by decide) (by decide) rfl hr.short ?_
    rintro v2 ρ2 L2 ⟨rfl, A2, c2, rfl, rfl⟩
    refine ⟨rfl, fun hle2 => ⟨(Kp.st' ⟨rfl, trivial⟩ (Hp.le_refl _) hrl), ?_⟩⟩
    refine Jp.call [] [2] (f26_spec random (by omega)) 13 rfl (want_all rfl) rfl rfl (Runs.fn rfl Try.call26 rfl) (by decide) (by decide) rfl hr.random ?_
    rintro v3 ρ3 L3 ⟨rfl, A3, c3, rfl, rfl⟩
    refine ⟨rfl, fun hle3 => ⟨(Kp.st' ⟨rfl, trivial⟩ (Hp.le_refl _) hrl), ?_⟩⟩
    refine Jp.call [] [3] (f37_spec clock (by omega)) 16 rfl (want_all rfl) rfl rfl (Runs.fn rfl Try.call37 rfl) (by decide) (by decide) rfl hr.clock ?_
    rintro v4 ρ4 L4 ⟨rfl, A4, c4, rfl, rfl⟩
    refine ⟨rfl, fun hle4 => ⟨(Kp.st' ⟨rfl, trivial⟩ (Hp.le_refl _) hrl), ?_⟩⟩
    refine Jp.q 17 rfl (want_all rfl) rfl rfl (Y.struct [(0, _), (1, _), (2, _)] [_, _, _, _, _, _] rfl rfl places84 Try.zeroValue84 rfl) ?_
    refine Jp.box 0 18 rfl (want_all rfl) rfl rfl rfl rfl fun b0 => ⟨(Kp.st' ⟨rfl, trivial⟩ (Hp.le_refl _) hrl), ?_⟩
    refine Jp.q 2 rfl (want_all rfl) rfl rfl (Y.assign rfl rfl) ?_
    refine Jp.done hK5 ?_
    refine Cd.freeze (i := 1) rfl (OwnS.up _ _ _ _ _ _) fun ρ1 l1 q1 => ?_
    refine Cd.freeze (i := 2) rfl (OwnS.up _ _ _ _ _ _) fun ρ2 l2 q2 => ?_
    refine Cd.freeze (i := 3) rfl (OwnS.up _ _ _ _ _ _) fun ρ3 l3 q3 => ?_
    refine Cd.ret [(0, _)] rfl (res1 rfl rfl) ⟨rfl, trivial⟩ ?_
    refine ⟨b0, ⟨⟨A2, c2, short.xs⟩, ⟨A3, c3, random.xs⟩, ⟨A4, c4, clock.xs⟩, 0, 0, 0⟩, rfl, rfl, ⟨?_, ?_, q3.rd, by simp, by simp, by simp, by simp; omega, by simp; omega, by simp; omega⟩, by rw [beginP, hg]; rfl⟩
    · exact RdS.up _ _ _ _ _ _ _ (Hp.le_trans l2 l3) q1.rd
    · exact RdS.up _ _ _ _ _ _ _ l3 q2.rd
end Go.Proofs.Ytogkncmhonomdaa
