/- Contract of law9: FeedPlays. -/
import Derived.Test.YtjjhihlmoecmlaaFeedP
set_option linter.unusedVariables false
set_option linter.unusedSimpArgs false
set_option maxRecDepth 100000
namespace Go.Proofs.Ytjjhihlmoecmlaa
open Go
/-- A call that is played: which, how many. -/
def actsV (l : List (Int × Int)) : List Value := l.flatMap fun x => [.int .i64 x.1, .int .i64 x.2]
def RdActs (s : Sl (Int × Int)) : HProp := RdS 2 s.A s.xs.length s.c (actsV s.xs)
theorem RdActs.up (s : Sl (Int × Int)) : Up (RdActs s) := RdS.up _ _ _ _ _
theorem actsV_get (l : List (Int × Int)) : ∀ (k : Nat) (x : Int × Int), l[k]? = some x → (actsV l)[k * 2]? = some (.int .i64 x.1) ∧ (actsV l)[k * 2 + 1]? = some (.int .i64 x.2) := by
  induction l with
  | nil => intro k f h; simp at h
  | cons g l ih =>
    intro k f h
    have e : actsV (g :: l) = .int .i64 g.1 :: .int .i64 g.2 :: actsV l := rfl
    cases k with
    | zero => simp at h; subst h; exact ⟨rfl, rfl⟩
    | succ k =>
      have := ih k f (by simpa using h)
      rw [e, Nat.succ_mul]
      simpa [Nat.add_assoc] using this
theorem RdActs.at {s : Sl (Int × Int)} {h : Hp} {ad : Addr} (r : RdActs s h) (hA : s.A = some ad) {k : Nat} {x : Int × Int} (e : s.xs[k]? = some x) : cellH h ((ad.add (k * 2)).add 0) = some (.int .i64 x.1) ∧ cellH h ((ad.add (k * 2)).add 1) = some (.int .i64 x.2) := by
  obtain ⟨h1, h2⟩ := actsV_get s.xs k x e
  rw [Addr.add_add, Addr.add_add]
  have key : ∀ j v, (actsV s.xs)[j]? = some v → cellH h (ad.add j) = some v := fun j v hv => by
    obtain ⟨a, e1, e2⟩ := r.2.2 j v hv
    rw [hA] at e1; injection e1 with e1; rw [e1]; exact e2
  exact ⟨key _ _ h1, key _ _ h2⟩
theorem f5_spec (f : FeedG) (l : Sl (Int × Int)) : Spec Try.prog 5 #[.agg f.cells.toArray, l.v] (fun h => RdFeed f h ∧ RdActs l h) [] (fun ρ ρ' v L => v = .bool true ∧ L = []) := by
  obtain ⟨Al, cl, xl⟩ := l
  dsimp only [Sl.v]
  refine Spec.of 114 Try.func5 rfl Try.ntmps5 [(0, _), (1, _)] rfl rfl ?_
  intro cx ρ hr h0
  obtain ⟨hrf, hrl'⟩ := hr
  have ll : xl.length ≤ 281474976710656 := hrl'.2.1.2
  refine Cd.seq fun K1 hK1 => ?_
  refine Cd.plain [(0, false), (1, false)] rfl rfl ?_
  refine Jp.box 50 2 rfl (want_all rfl) rfl rfl rfl rfl fun b50 => ⟨Kp.true, ?_⟩
  refine Jp.y 4 rfl (want_all rfl) rfl rfl Kp.true (Y.assign rfl rfl) ?_
  refine Jp.done hK1 ?_
  refine Cd.seq fun K2 hK2 => ?_
  refine Cd.seq fun K3 hK3 => ?_
  refine Cd.plain [(0, false), (1, false)] rfl rfl ?_
  refine Jp.call [] [] f15_spec 12 rfl (want_all rfl) rfl rfl (Runs.fn rfl Try.call15 rfl) (by decide) (by decide) rfl trivial ?_
  rintro v1 ρ1 L1 ⟨rfl, rfl⟩
  refine ⟨rfl, fun hle1 => ⟨Kp.true, ?_⟩⟩
  have hrf := RdFeed.up _ _ _ hle1 hrf
  have hrl' := RdActs.up _ _ _ hle1 hrl'
  refine Jp.y 13 rfl (want_all rfl) rfl rfl Kp.true (Y.not rfl rfl) ?_
  refine Jp.done hK3 ?_
  refine Cd.cond rfl (fun g13 => ?_) (fun g13 => ?_)
  · skip
    exact absurd g13 (by simp)
  try simp only [decide_eq_false_iff_not, decide_eq_true_eq, Int.not_lt, Int.not_le, Bool.not_eq_false, Bool.not_eq_true, Bool.not_true, Bool.not_false, Bool.not_eq_true', Bool.not_eq_false', beq_eq_false_iff_ne, ne_eq, beq_iff_eq, bne_iff_ne, Classical.not_not] at g13
  refine Cd.skip hK2 ?_
  refine Cd.seq fun K4 hK4 => ?_
  refine Cd.seq fun K5 hK5 => ?_
  refine Cd.plain [(0, false), (1, false), (2, false), (3, false), (4, false), (5, false), (6, false)] rfl rfl ?_
  refine Jp.y 14 rfl (want_all rfl) rfl rfl Kp.true (by first | exact Y.loadAggO 50 rfl Try.isAgg35 Try.sizeOf35 rfl rfl rfl | exact Y.loadAggO 50 rfl Try.isAgg35 Try.sizeOf35 rfl rfl rfl) ?_
  refine Jp.call [] [] (f21_spec f) 15 rfl (want_all rfl) rfl rfl (Runs.fn rfl Try.call21 rfl) (by decide) (by decide) rfl hrf ?_
  rintro v2 ρ2 L2 ⟨rfl, ⟨gr, rfl, hgr⟩, rfl⟩
  refine ⟨rfl, fun hle2 => ⟨Kp.true, ?_⟩⟩
  have hS : Hp.le ρ2 ρ2 := Hp.le_refl _
  refine Jp.y 16 rfl (want_all rfl) rfl rfl Kp.true (Y.move rfl rfl) ?_
  refine Jp.split 16 rfl (fun g16 => ?_) (fun g16 => ?_)
  · skip
    refine Jp.skip 17 rfl (want_as rfl rfl rfl rfl) rfl rfl Kp.true ?_
    refine Jp.skip 18 rfl (want_as rfl rfl rfl rfl) rfl rfl Kp.true ?_
    refine Jp.skip 19 rfl (want_as rfl rfl rfl rfl) rfl rfl Kp.true ?_
    refine Jp.y 20 rfl (want_all rfl) rfl rfl Kp.true (Y.pickT rfl rfl rfl) ?_
    refine Jp.done hK5 ?_
    refine Cd.condT rfl ?_
    refine Cd.seq fun K6 hK6 => ?_
    refine Cd.plain [(0, false)] rfl rfl ?_
    refine Jp.y 4 rfl (want_all rfl) rfl rfl Kp.true (Y.assign rfl rfl) ?_
    refine Jp.done hK6 ?_
    refine Cd.ret [] rfl (res1 rfl rfl) trivial ⟨rfl, rfl⟩
  try simp only [decide_eq_false_iff_not, decide_eq_true_eq, Int.not_lt, Int.not_le, Bool.not_eq_false, Bool.not_eq_true, Bool.not_true, Bool.not_false, Bool.not_eq_true', Bool.not_eq_false', beq_eq_false_iff_ne, ne_eq, beq_iff_eq, bne_iff_ne, Classical.not_not] at g16
  refine Jp.y 17 rfl (want_as rfl rfl rfl rfl) rfl rfl Kp.true (Y.move rfl rfl) ?_
  refine Jp.y 18 rfl (want_as rfl rfl rfl rfl) rfl rfl Kp.true (Y.lenslice rfl Try.underlying42 rfl) ?_
  refine Jp.y 19 rfl (want_as rfl rfl rfl rfl) rfl rfl Kp.true (Y.gtr rfl rfl rfl) ?_
  refine Jp.y 20 rfl (want_all rfl) rfl rfl Kp.true (Y.pickF rfl rfl rfl) ?_
  refine Jp.done hK5 ?_
  refine Cd.cond rfl (fun g20 => ?_) (fun g20 => ?_)
  · skip
    refine Cd.seq fun K7 hK7 => ?_
    refine Cd.plain [(0, false)] rfl rfl ?_
    refine Jp.y 4 rfl (want_all rfl) rfl rfl Kp.true (Y.assign rfl rfl) ?_
    refine Jp.done hK7 ?_
    refine Cd.ret [] rfl (res1 rfl rfl) trivial ⟨rfl, rfl⟩
  try simp only [decide_eq_false_iff_not, decide_eq_true_eq, Int.not_lt, Int.not_le, Bool.not_eq_false, Bool.not_eq_true, Bool.not_true, Bool.not_false, Bool.not_eq_true', Bool.not_eq_false', beq_eq_false_iff_ne, ne_eq, beq_iff_eq, bne_iff_ne, Classical.not_not] at g20
  refine Cd.skip hK4 ?_
  refine Cd.seq fun K8 hK8 => ?_
  refine Cd.drawn [(50, _)] ⟨rfl, trivial⟩ [(0, true), (2, true), (1, false), (3, false), (4, false), (5, true), (6, true)] follows (by kernel_rfl) (fun hrl => ?_)
  have hf10 : f.files.xs.length ≤ 10 := hgr g16
  refine Jp.q 21 rfl (want_all rfl) rfl rfl (by first | exact Y.loadAggO 50 rfl Try.isAgg35 Try.sizeOf35 rfl rfl rfl | exact Y.loadAggO 50 rfl Try.isAgg35 Try.sizeOf35 rfl rfl rfl) ?_
  refine Jp.q 23 rfl (want_all rfl) rfl rfl (by first | exact Y.loadAggO 50 rfl Try.isAgg35 Try.sizeOf35 rfl rfl rfl | exact Y.loadAggO 50 rfl Try.isAgg35 Try.sizeOf35 rfl rfl rfl) ?_
  refine Jp.call [] [1] (f17_spec f) 22 rfl (want_all rfl) rfl rfl (Runs.fn rfl Try.call17 rfl) (by decide) (by decide) rfl hrf ?_
  rintro v3 ρ3 L3 ⟨b, u, rfl, rfl, hu, hp⟩
  refine ⟨rfl, fun hle3 => ⟨(Kp.st' ⟨rfl, trivial⟩ (Hp.le_trans hS hle3) hrl), ?_⟩⟩
  have hS := Hp.le_trans hS hle3
  have hrf := RdFeed.up _ _ _ hle3 hrf
  have hrl' := RdActs.up _ _ _ hle3 hrl'
  refine Jp.call [] [2] (f23_spec f hf10) 24 rfl (want_all rfl) rfl rfl (Runs.fn rfl Try.call23 rfl) (by decide) (by decide) rfl hrf ?_
  rintro v4 ρ4 L4 ⟨rfl, A5, c5, rfl, rfl⟩
  refine ⟨rfl, fun hle4 => ⟨(Kp.st' ⟨rfl, trivial⟩ (Hp.le_trans hS hle4) hrl), ?_⟩⟩
  refine Jp.freeze (i := 2) rfl (OwnS.up _ _ _ _ _ _) fun ρ5 l5 q5 => ?_
  have hS := Hp.le_trans hS (Hp.le_trans hle4 l5)
  have hu := RdUse.up _ _ _ l5 hu
  have hrf := RdFeed.up _ _ _ l5 hrf
  have hrl' := RdActs.up _ _ _ l5 hrl'
  have hrf2 : RdFeed ⟨f.args, f.input, f.short, f.random, f.clock, ⟨A5, c5, f.files.xs⟩⟩ ρ5 := ⟨hrf.args, hrf.input, hrf.short, hrf.random, hrf.clock, ⟨q5.rd, hrf.files.2⟩⟩
  refine Jp.call [] [2] (f22_spec ⟨f.args, f.input, f.short, f.random, f.clock, ⟨A5, c5, f.files.xs⟩⟩) 25 rfl (want_all rfl) rfl rfl (Runs.fn rfl Try.call22 rfl) (by decide) (by decide) rfl hrf2 ?_
  rintro v6 ρ6 L6 ⟨rfl, b2, u2, rfl, rfl, hu2, hp2⟩
  refine ⟨rfl, fun hle6 => ⟨(Kp.st' ⟨rfl, trivial⟩ (Hp.le_trans hS hle6) hrl), ?_⟩⟩
  have hS := Hp.le_trans hS hle6
  refine Jp.q 5 rfl (want_all rfl) rfl rfl (Y.assign rfl rfl) ?_
  have hu := RdUse.up _ _ _ hle6 hu
  have hrl' := RdActs.up _ _ _ hle6 hrl'
  have hpp : u.p = u2.p := by rw [hp, hp2]; rfl
  have hl2 : xl.length ≤ 80 := by omega
  refine Jp.q 6 rfl (want_all rfl) rfl rfl (Y.assign rfl rfl) ?_
  refine Jp.done hK8 ?_
  refine Cd.seq fun K10 hK10 => ?_
  refine Cd.seq fun K11 hK11 => ?_
  refine Cd.plain [(0, false)] rfl rfl ?_
  refine Jp.y 7 rfl (want_all rfl) rfl rfl Kp.true (Y.assign rfl rfl) ?_
  refine Jp.done hK11 ?_
  refine Cd.block ?_
  refine Cd.loop (G := Nat × Nat × UseG × RefG) (fun g => g.1 ≤ xl.length ∧ RdUse g.2.2.1 ρ6 ∧ RdRef g.2.2.2 ρ6 ∧ g.2.2.1.p = g.2.2.2.p) (fun g => xl.length - g.1) (fun _ => ρ6) (fun g => [(1, .slice Al xl.length cl), (5, .pointer (some ⟨g.2.1, 0, none⟩)), (6, .pointer (some ⟨b2, 0, none⟩)), (7, .int .i64 g.1)]) (fun g => [(1, UsePt g.2.1 g.2.2.1), (2, RefPt b2 g.2.2.2)]) (0, b, u, u2) ⟨Nat.zero_le _, hu, hu2, hpp⟩ rfl ⟨rfl, rfl, rfl, rfl, trivial⟩ ⟨rfl, rfl, trivial⟩ (fun g KLa hok hLa => ?_)
  obtain ⟨k, b, u, w⟩ := g
  obtain ⟨ok1, ok2, ok3, ok4⟩ := hok
  dsimp only at ok1 ok2 ok3 ok4 ⊢
  refine Cd.seq fun K12 hK12 => ?_
  refine Cd.seq fun K13 hK13 => ?_
  refine Cd.plain [(0, false), (1, false), (2, false), (3, false)] rfl rfl ?_
  refine Jp.y 26 rfl (want_all rfl) rfl rfl Kp.true (Y.move rfl rfl) ?_
  refine Jp.y 27 rfl (want_all rfl) rfl rfl Kp.true (Y.move rfl rfl) ?_
  refine Jp.y 28 rfl (want_all rfl) rfl rfl Kp.true (Y.lenslice rfl Try.underlying42 rfl) ?_
  refine Jp.y 29 rfl (want_all rfl) rfl rfl Kp.true (Y.lss rfl rfl rfl) ?_
  refine Jp.done hK13 ?_
  refine Cd.cond rfl (fun ga => ?_) (fun ga => ?_)
  · simp only [decide_eq_true_eq] at ga
    have hk : k < xl.length := by omega
    have hkx : xl[k]? = some xl[k] := by simp [hk]
    obtain ⟨al, rfl⟩ := hrl'.some (show 0 < xl.length * 2 by omega)
    obtain ⟨hc0, hc1⟩ := hrl'.at rfl hkx
    refine Cd.skip hK12 ?_
    refine Cd.seq fun K14 hK14 => ?_
    refine Cd.block ?_
    refine Cd.seq fun K15 hK15 => ?_
    refine Cd.plain [(0, false)] rfl rfl ?_
    refine Jp.y 8 rfl (want_all rfl) rfl rfl Kp.true (Y.assign rfl rfl) ?_
    refine Jp.done hK15 ?_
    refine Cd.seq fun K16 hK16 => ?_
    refine Cd.seq fun K17 hK17 => ?_
    refine Cd.plain [(0, false), (1, false), (2, false), (3, false), (4, false)] rfl rfl ?_
    refine Jp.y 32 rfl (want_all rfl) rfl rfl Kp.true (Y.move rfl rfl) ?_
    refine Jp.y 33 rfl (want_all rfl) rfl rfl Kp.true (Y.move rfl rfl) ?_
    refine Jp.y 34 rfl (want_all rfl) rfl rfl Kp.true (Y.indexAddr (q := k * 2) rfl rfl rfl Try.underlying42 Try.sizeOf48 (by omega) (by omega) (by omega)) ?_
    refine Jp.y 35 rfl (want_all rfl) rfl rfl Kp.true (Y.fieldAddr rfl rfl Try.underlying48 rfl Try.sizeOf3 (by decide)) ?_
    refine Jp.y 36 rfl (want_all rfl) rfl rfl Kp.true (by first | exact Y.loadR rfl Try.isAgg3 rfl hc0 | exact Y.loadR rfl Try.isAgg3 rfl hc1) ?_
    refine Jp.done hK17 ?_
    refine Cd.block ?_
    refine Cd.seq fun K18 hK18 => ?_
    refine Cd.plain [(0, false), (1, false)] rfl rfl ?_
    refine Jp.y 40 rfl (want_all rfl) rfl rfl Kp.true (Y.eql rfl rfl rfl) ?_
    refine Jp.y 39 rfl (want_all rfl) rfl rfl Kp.true (Y.assign rfl rfl) ?_
    refine Jp.done hK18 ?_
    refine Cd.cond rfl (fun g0 => ?_) (fun g0 => ?_)
    · skip
      refine Cd.drawn [] trivial [(0, true), (1, true), (2, true), (3, true), (4, true), (5, true), (7, true), (8, true), (9, true), (10, true), (11, true), (12, true), (6, false), (13, false), (14, true), (15, true)] follows (by kernel_rfl) (fun hrl => ?_)
      refine Jp.q 41 rfl (want_all rfl) rfl rfl (Y.move rfl rfl) ?_
      refine Jp.q 42 rfl (want_all rfl) rfl rfl (Y.move rfl rfl) ?_
      refine Jp.q 43 rfl (want_all rfl) rfl rfl (Y.move rfl rfl) ?_
      refine Jp.q 44 rfl (want_all rfl) rfl rfl (Y.indexAddr (q := k * 2) rfl rfl rfl Try.underlying42 Try.sizeOf48 (by omega) (by omega) (by omega)) ?_
      refine Jp.q 45 rfl (want_all rfl) rfl rfl (Y.fieldAddr rfl rfl Try.underlying48 rfl Try.sizeOf3 (by decide)) ?_
      refine Jp.q 46 rfl (want_all rfl) rfl rfl (by first | exact Y.loadR rfl Try.isAgg3 rfl hc0 | exact Y.loadR rfl Try.isAgg3 rfl hc1) ?_
      refine Jp.q 48 rfl (want_all rfl) rfl rfl (Y.move rfl rfl) ?_
      refine Jp.q 49 rfl (want_all rfl) rfl rfl (Y.move rfl rfl) ?_
      refine Jp.q 50 rfl (want_all rfl) rfl rfl (Y.move rfl rfl) ?_
      refine Jp.q 51 rfl (want_all rfl) rfl rfl (Y.indexAddr (q := k * 2) rfl rfl rfl Try.underlying42 Try.sizeOf48 (by omega) (by omega) (by omega)) ?_
      refine Jp.q 52 rfl (want_all rfl) rfl rfl (Y.fieldAddr rfl rfl Try.underlying48 rfl Try.sizeOf3 (by decide)) ?_
      refine Jp.q 53 rfl (want_all rfl) rfl rfl (by first | exact Y.loadR rfl Try.isAgg3 rfl hc0 | exact Y.loadR rfl Try.isAgg3 rfl hc1) ?_
      refine Jp.call [1] [1] (f18_spec b u xl[k].2) 47 rfl (want_all rfl) rfl rfl (Runs.fn rfl Try.call18 rfl) (by decide) (by decide) rfl ok2 ?_
      rintro v7 ρ7 L7 ⟨rfl, rfl, A7, rfl, u7, rfl, hu7, hp7⟩
      refine ⟨rfl, fun hle7 => ⟨(Kp.st trivial), ?_⟩⟩
      refine Jp.call [2] [2] (f24_spec b2 w xl[k].2) 54 rfl (want_all rfl) rfl rfl (Runs.fn rfl Try.call24 rfl) (by decide) (by decide) rfl ok3 ?_
      rintro v8 ρ8 L8 ⟨rfl, rfl, A8, rfl, w8, rfl, hw8, hp8⟩
      refine ⟨rfl, fun hle8 => ⟨(Kp.st trivial), ?_⟩⟩
      rw [ok4]
      refine Jp.q 55 rfl (want_all rfl) rfl rfl (Y.eql rfl rfl rfl) ?_
      rw [beq_self_eq_true]
      refine Jp.q 8 rfl (want_all rfl) rfl rfl (Y.assign rfl rfl) ?_
      refine Jp.over rfl hK16 ?_
      refine Cd.seq fun K20 hK20 => ?_
      refine Cd.plain [(0, false), (1, false), (2, false), (3, false), (4, false), (5, false), (6, false), (7, false), (8, false)] rfl rfl ?_
      refine Jp.y 83 rfl (want_all rfl) rfl rfl Kp.true (Y.move rfl rfl) ?_
      refine Jp.call [1] [1] (f19_spec b u7) 84 rfl (want_all rfl) rfl rfl (Runs.fn rfl Try.call19 rfl) (by decide) (by decide) rfl trivial ?_
      rintro v9 ρ9 L9 ⟨rfl, rfl, rfl⟩
      refine ⟨rfl, fun hle9 => ⟨Kp.true, ?_⟩⟩
      have hpq : (u7).p = (w8).p := (by rw [hp7, hp8, ok4])
      rw [show (u7).shorts = (w8).shorts from congrArg UseP.shorts hpq, show (u7).bytes = (w8).bytes from congrArg UseP.bytes hpq, show (u7).clocks = (w8).clocks from congrArg UseP.clocks hpq]
      refine Jp.y 82 rfl (want_all rfl) rfl rfl Kp.true (Y.move rfl rfl) ?_
      refine Jp.y 85 rfl (want_all rfl) rfl rfl Kp.true (Y.extract rfl rfl rfl) ?_
      refine Jp.y 86 rfl (want_all rfl) rfl rfl Kp.true (Y.extract rfl rfl rfl) ?_
      refine Jp.y 87 rfl (want_all rfl) rfl rfl Kp.true (Y.extract rfl rfl rfl) ?_
      refine Jp.y 9 rfl (want_all rfl) rfl rfl Kp.true (Y.assign rfl rfl) ?_
      refine Jp.y 10 rfl (want_all rfl) rfl rfl Kp.true (Y.assign rfl rfl) ?_
      refine Jp.y 11 rfl (want_all rfl) rfl rfl Kp.true (Y.assign rfl rfl) ?_
      refine Jp.done hK20 ?_
      refine Cd.seq fun K21 hK21 => ?_
      refine Cd.plain [(0, false), (1, false), (2, false), (3, false), (4, false), (5, false), (6, false), (7, false), (8, false), (9, false), (10, false), (11, false), (12, false), (13, false), (14, false), (15, false), (16, false), (17, false), (18, false), (19, false), (20, false), (21, false), (22, false), (23, false), (24, false), (25, false)] rfl rfl ?_
      refine Jp.y 88 rfl (want_all rfl) rfl rfl Kp.true (Y.move rfl rfl) ?_
      refine Jp.y 89 rfl (want_all rfl) rfl rfl Kp.true (Y.not rfl rfl) ?_
      refine Jp.y 90 rfl (want_all rfl) rfl rfl Kp.true (Y.move rfl rfl) ?_
      refine Jp.split 90 rfl (fun g90 => ?_) (fun g90 => ?_)
      · skip
        exact absurd g90 (by simp)
      try simp only [decide_eq_false_iff_not, decide_eq_true_eq, Int.not_lt, Int.not_le, Bool.not_eq_false, Bool.not_eq_true, Bool.not_true, Bool.not_false, Bool.not_eq_true', Bool.not_eq_false', beq_eq_false_iff_ne, ne_eq, beq_iff_eq, bne_iff_ne, Classical.not_not] at g90
      refine Jp.y 91 rfl (want_as rfl rfl rfl rfl) rfl rfl Kp.true (Y.move rfl rfl) ?_
      refine Jp.y 92 rfl (want_as rfl rfl rfl rfl) rfl rfl Kp.true (Y.move rfl rfl) ?_
      refine Jp.y 93 rfl (want_as rfl rfl rfl rfl) rfl rfl Kp.true (Y.nilCheck rfl rfl) ?_
      refine Jp.y 94 rfl (want_as rfl rfl rfl rfl) rfl rfl Kp.true (Y.fieldAddr rfl rfl Try.underlying53 rfl Try.sizeOf3 (by decide)) ?_
      refine Jp.y 95 rfl (want_as rfl rfl rfl rfl) rfl rfl Kp.true (by first | exact Y.loadO 2 rfl Try.isAgg3 rfl rfl rfl | exact Y.loadR rfl Try.isAgg3 rfl hc0 | exact Y.loadR rfl Try.isAgg3 rfl hc1) ?_
      refine Jp.y 96 rfl (want_as rfl rfl rfl rfl) rfl rfl Kp.true (Y.neq rfl rfl rfl) ?_
      refine Jp.y 97 rfl (want_all rfl) rfl rfl Kp.true (Y.pickF rfl rfl rfl) ?_
      refine Jp.y 98 rfl (want_all rfl) rfl rfl Kp.true (Y.move rfl rfl) ?_
      refine Jp.split 98 rfl (fun g98 => ?_) (fun g98 => ?_)
      · skip
        exact absurd g98 (by simp)
      try simp only [decide_eq_false_iff_not, decide_eq_true_eq, Int.not_lt, Int.not_le, Bool.not_eq_false, Bool.not_eq_true, Bool.not_true, Bool.not_false, Bool.not_eq_true', Bool.not_eq_false', beq_eq_false_iff_ne, ne_eq, beq_iff_eq, bne_iff_ne, Classical.not_not] at g98
      refine Jp.y 99 rfl (want_as rfl rfl rfl rfl) rfl rfl Kp.true (Y.move rfl rfl) ?_
      refine Jp.y 100 rfl (want_as rfl rfl rfl rfl) rfl rfl Kp.true (Y.move rfl rfl) ?_
      refine Jp.y 101 rfl (want_as rfl rfl rfl rfl) rfl rfl Kp.true (Y.nilCheck rfl rfl) ?_
      refine Jp.y 102 rfl (want_as rfl rfl rfl rfl) rfl rfl Kp.true (Y.fieldAddr rfl rfl Try.underlying53 rfl Try.sizeOf3 (by decide)) ?_
      refine Jp.y 103 rfl (want_as rfl rfl rfl rfl) rfl rfl Kp.true (by first | exact Y.loadO 2 rfl Try.isAgg3 rfl rfl rfl | exact Y.loadR rfl Try.isAgg3 rfl hc0 | exact Y.loadR rfl Try.isAgg3 rfl hc1) ?_
      refine Jp.y 104 rfl (want_as rfl rfl rfl rfl) rfl rfl Kp.true (Y.neq rfl rfl rfl) ?_
      refine Jp.y 105 rfl (want_all rfl) rfl rfl Kp.true (Y.pickF rfl rfl rfl) ?_
      refine Jp.y 106 rfl (want_all rfl) rfl rfl Kp.true (Y.move rfl rfl) ?_
      refine Jp.split 106 rfl (fun g106 => ?_) (fun g106 => ?_)
      · skip
        exact absurd g106 (by simp)
      try simp only [decide_eq_false_iff_not, decide_eq_true_eq, Int.not_lt, Int.not_le, Bool.not_eq_false, Bool.not_eq_true, Bool.not_true, Bool.not_false, Bool.not_eq_true', Bool.not_eq_false', beq_eq_false_iff_ne, ne_eq, beq_iff_eq, bne_iff_ne, Classical.not_not] at g106
      refine Jp.y 107 rfl (want_as rfl rfl rfl rfl) rfl rfl Kp.true (Y.move rfl rfl) ?_
      refine Jp.y 108 rfl (want_as rfl rfl rfl rfl) rfl rfl Kp.true (Y.move rfl rfl) ?_
      refine Jp.y 109 rfl (want_as rfl rfl rfl rfl) rfl rfl Kp.true (Y.nilCheck rfl rfl) ?_
      refine Jp.y 110 rfl (want_as rfl rfl rfl rfl) rfl rfl Kp.true (Y.fieldAddr rfl rfl Try.underlying53 rfl Try.sizeOf3 (by decide)) ?_
      refine Jp.y 111 rfl (want_as rfl rfl rfl rfl) rfl rfl Kp.true (by first | exact Y.loadO 2 rfl Try.isAgg3 rfl rfl rfl | exact Y.loadR rfl Try.isAgg3 rfl hc0 | exact Y.loadR rfl Try.isAgg3 rfl hc1) ?_
      refine Jp.y 112 rfl (want_as rfl rfl rfl rfl) rfl rfl Kp.true (Y.neq rfl rfl rfl) ?_
      refine Jp.y 113 rfl (want_all rfl) rfl rfl Kp.true (Y.pickF rfl rfl rfl) ?_
      refine Jp.done hK21 ?_
      refine Cd.cond rfl (fun g113 => ?_) (fun g113 => ?_)
      · skip
        exact absurd g113 (by simp)
      try simp only [decide_eq_false_iff_not, decide_eq_true_eq, Int.not_lt, Int.not_le, Bool.not_eq_false, Bool.not_eq_true, Bool.not_true, Bool.not_false, Bool.not_eq_true', Bool.not_eq_false', beq_eq_false_iff_ne, ne_eq, beq_iff_eq, bne_iff_ne, Classical.not_not] at g113
      refine Cd.over rfl hK14 ?_
      refine Cd.plain [(0, false), (1, false), (2, false)] rfl rfl ?_
      refine Jp.y 30 rfl (want_all rfl) rfl rfl Kp.true (Y.move rfl rfl) ?_
      refine Jp.y 31 rfl (want_all rfl) rfl rfl Kp.true (Y.add_ rfl rfl rfl (by first | exact wrap_i64 (by omega) (by omega) | rfl)) ?_
      refine Jp.y 7 rfl (want_all rfl) rfl rfl Kp.true (Y.assign rfl rfl) ?_
      refine Jp.again hLa (k + 1, b, u7, w8) ⟨by dsimp only; omega, hu7, hw8, hpq⟩ (by dsimp only; omega) rfl ⟨rfl, rfl, rfl, rfl, trivial⟩ ⟨rfl, rfl, trivial⟩
    · skip
      refine Cd.seq fun K22 hK22 => ?_
      refine Cd.plain [(0, false), (1, false)] rfl rfl ?_
      refine Jp.y 57 rfl (want_all rfl) rfl rfl Kp.true (Y.eql rfl rfl rfl) ?_
      refine Jp.y 56 rfl (want_all rfl) rfl rfl Kp.true (Y.assign rfl rfl) ?_
      refine Jp.done hK22 ?_
      refine Cd.cond rfl (fun g1 => ?_) (fun g1 => ?_)
      · skip
        refine Cd.drawn [] trivial [(0, true), (1, true), (2, true), (3, true), (4, true), (5, true), (8, true), (9, true), (10, true), (11, true), (12, true), (13, true), (6, false), (7, true), (14, false), (15, true), (16, true), (17, true)] follows (by kernel_rfl) (fun hrl => ?_)
        refine Jp.q 58 rfl (want_all rfl) rfl rfl (Y.move rfl rfl) ?_
        refine Jp.q 59 rfl (want_all rfl) rfl rfl (Y.move rfl rfl) ?_
        refine Jp.q 60 rfl (want_all rfl) rfl rfl (Y.move rfl rfl) ?_
        refine Jp.q 61 rfl (want_all rfl) rfl rfl (Y.indexAddr (q := k * 2) rfl rfl rfl Try.underlying42 Try.sizeOf48 (by omega) (by omega) (by omega)) ?_
        refine Jp.q 62 rfl (want_all rfl) rfl rfl (Y.fieldAddr rfl rfl Try.underlying48 rfl Try.sizeOf3 (by decide)) ?_
        refine Jp.q 63 rfl (want_all rfl) rfl rfl (by first | exact Y.loadO 2 rfl Try.isAgg3 rfl rfl rfl | exact Y.loadR rfl Try.isAgg3 rfl hc0 | exact Y.loadR rfl Try.isAgg3 rfl hc1) ?_
        refine Jp.q 66 rfl (want_all rfl) rfl rfl (Y.move rfl rfl) ?_
        refine Jp.q 67 rfl (want_all rfl) rfl rfl (Y.move rfl rfl) ?_
        refine Jp.q 68 rfl (want_all rfl) rfl rfl (Y.move rfl rfl) ?_
        refine Jp.q 69 rfl (want_all rfl) rfl rfl (Y.indexAddr (q := k * 2) rfl rfl rfl Try.underlying42 Try.sizeOf48 (by omega) (by omega) (by omega)) ?_
        refine Jp.q 70 rfl (want_all rfl) rfl rfl (Y.fieldAddr rfl rfl Try.underlying48 rfl Try.sizeOf3 (by decide)) ?_
        refine Jp.q 71 rfl (want_all rfl) rfl rfl (by first | exact Y.loadO 2 rfl Try.isAgg3 rfl rfl rfl | exact Y.loadR rfl Try.isAgg3 rfl hc0 | exact Y.loadR rfl Try.isAgg3 rfl hc1) ?_
        refine Jp.call [1] [1, 3] (f20_spec b u xl[k].2) 64 rfl (want_all rfl) rfl rfl (Runs.fn rfl Try.call20 rfl) (by decide) (by decide) rfl ok2 ?_
        rintro v7 ρ7 L7 ⟨rfl, A7, B7, c7, rfl, rfl, u7, rfl, hu7, hp7⟩
        refine ⟨rfl, fun hle7 => ⟨(Kp.st trivial), ?_⟩⟩
        refine Jp.strong [(3, _)] ⟨rfl, trivial⟩ trivial (Hp.le_refl _) hrl ?_
        have hrl := Hp.le_trans hrl (Hp.le_refl _)
        refine Jp.q 65 rfl (want_all rfl) rfl rfl (Y.toStr _ rfl rfl Try.underlying26 Try.underlying9 Try.underlying5 ⟨_, _, rfl⟩ (Src.own 3 rfl)) ?_
        refine Jp.call [2] [2, 4] (f25_spec b2 w xl[k].2) 72 rfl (want_all rfl) rfl rfl (Runs.fn rfl Try.call25 rfl) (by decide) (by decide) rfl ok3 ?_
        rintro v8 ρ8 L8 ⟨rfl, A8, B8, c8, rfl, rfl, w8, rfl, hw8, hp8⟩
        refine ⟨rfl, fun hle8 => ⟨(Kp.st ⟨rfl, trivial⟩), ?_⟩⟩
        refine Jp.strong [(3, _), (4, _)] ⟨rfl, rfl, trivial⟩ ⟨rfl, trivial⟩ (Hp.le_refl _) hrl ?_
        have hrl := Hp.le_trans hrl (Hp.le_refl _)
        refine Jp.q 73 rfl (want_all rfl) rfl rfl (Y.toStr _ rfl rfl Try.underlying26 Try.underlying9 Try.underlying5 ⟨_, _, rfl⟩ (Src.own 4 rfl)) ?_
        rw [ok4]
        refine Jp.q 74 rfl (want_all rfl) rfl rfl (Y.streql rfl rfl rfl) ?_
        rw [beq_self_eq_true]
        refine Jp.q 8 rfl (want_all rfl) rfl rfl (Y.assign rfl rfl) ?_
        refine Jp.over rfl hK16 ?_
        refine Cd.seq fun K24 hK24 => ?_
        refine Cd.plain [(0, false), (1, false), (2, false), (3, false), (4, false), (5, false), (6, false), (7, false), (8, false)] rfl rfl ?_
        refine Jp.y 83 rfl (want_all rfl) rfl rfl Kp.true (Y.move rfl rfl) ?_
        refine Jp.call [1] [1] (f19_spec b u7) 84 rfl (want_all rfl) rfl rfl (Runs.fn rfl Try.call19 rfl) (by decide) (by decide) rfl trivial ?_
        rintro v9 ρ9 L9 ⟨rfl, rfl, rfl⟩
        refine ⟨rfl, fun hle9 => ⟨Kp.true, ?_⟩⟩
        have hpq : (u7).p = (w8).p := (by rw [hp7, hp8, ok4])
        rw [show (u7).shorts = (w8).shorts from congrArg UseP.shorts hpq, show (u7).bytes = (w8).bytes from congrArg UseP.bytes hpq, show (u7).clocks = (w8).clocks from congrArg UseP.clocks hpq]
        refine Jp.y 82 rfl (want_all rfl) rfl rfl Kp.true (Y.move rfl rfl) ?_
        refine Jp.y 85 rfl (want_all rfl) rfl rfl Kp.true (Y.extract rfl rfl rfl) ?_
        refine Jp.y 86 rfl (want_all rfl) rfl rfl Kp.true (Y.extract rfl rfl rfl) ?_
        refine Jp.y 87 rfl (want_all rfl) rfl rfl Kp.true (Y.extract rfl rfl rfl) ?_
        refine Jp.y 9 rfl (want_all rfl) rfl rfl Kp.true (Y.assign rfl rfl) ?_
        refine Jp.y 10 rfl (want_all rfl) rfl rfl Kp.true (Y.assign rfl rfl) ?_
        refine Jp.y 11 rfl (want_all rfl) rfl rfl Kp.true (Y.assign rfl rfl) ?_
        refine Jp.done hK24 ?_
        refine Cd.seq fun K25 hK25 => ?_
        refine Cd.plain [(0, false), (1, false), (2, false), (3, false), (4, false), (5, false), (6, false), (7, false), (8, false), (9, false), (10, false), (11, false), (12, false), (13, false), (14, false), (15, false), (16, false), (17, false), (18, false), (19, false), (20, false), (21, false), (22, false), (23, false), (24, false), (25, false)] rfl rfl ?_
        refine Jp.y 88 rfl (want_all rfl) rfl rfl Kp.true (Y.move rfl rfl) ?_
        refine Jp.y 89 rfl (want_all rfl) rfl rfl Kp.true (Y.not rfl rfl) ?_
        refine Jp.y 90 rfl (want_all rfl) rfl rfl Kp.true (Y.move rfl rfl) ?_
        refine Jp.split 90 rfl (fun g90 => ?_) (fun g90 => ?_)
        · skip
          exact absurd g90 (by simp)
        try simp only [decide_eq_false_iff_not, decide_eq_true_eq, Int.not_lt, Int.not_le, Bool.not_eq_false, Bool.not_eq_true, Bool.not_true, Bool.not_false, Bool.not_eq_true', Bool.not_eq_false', beq_eq_false_iff_ne, ne_eq, beq_iff_eq, bne_iff_ne, Classical.not_not] at g90
        refine Jp.y 91 rfl (want_as rfl rfl rfl rfl) rfl rfl Kp.true (Y.move rfl rfl) ?_
        refine Jp.y 92 rfl (want_as rfl rfl rfl rfl) rfl rfl Kp.true (Y.move rfl rfl) ?_
        refine Jp.y 93 rfl (want_as rfl rfl rfl rfl) rfl rfl Kp.true (Y.nilCheck rfl rfl) ?_
        refine Jp.y 94 rfl (want_as rfl rfl rfl rfl) rfl rfl Kp.true (Y.fieldAddr rfl rfl Try.underlying53 rfl Try.sizeOf3 (by decide)) ?_
        refine Jp.y 95 rfl (want_as rfl rfl rfl rfl) rfl rfl Kp.true (by first | exact Y.loadO 2 rfl Try.isAgg3 rfl rfl rfl | exact Y.loadR rfl Try.isAgg3 rfl hc0 | exact Y.loadR rfl Try.isAgg3 rfl hc1) ?_
        refine Jp.y 96 rfl (want_as rfl rfl rfl rfl) rfl rfl Kp.true (Y.neq rfl rfl rfl) ?_
        refine Jp.y 97 rfl (want_all rfl) rfl rfl Kp.true (Y.pickF rfl rfl rfl) ?_
        refine Jp.y 98 rfl (want_all rfl) rfl rfl Kp.true (Y.move rfl rfl) ?_
        refine Jp.split 98 rfl (fun g98 => ?_) (fun g98 => ?_)
        · skip
          exact absurd g98 (by simp)
        try simp only [decide_eq_false_iff_not, decide_eq_true_eq, Int.not_lt, Int.not_le, Bool.not_eq_false, Bool.not_eq_true, Bool.not_true, Bool.not_false, Bool.not_eq_true', Bool.not_eq_false', beq_eq_false_iff_ne, ne_eq, beq_iff_eq, bne_iff_ne, Classical.not_not] at g98
        refine Jp.y 99 rfl (want_as rfl rfl rfl rfl) rfl rfl Kp.true (Y.move rfl rfl) ?_
        refine Jp.y 100 rfl (want_as rfl rfl rfl rfl) rfl rfl Kp.true (Y.move rfl rfl) ?_
        refine Jp.y 101 rfl (want_as rfl rfl rfl rfl) rfl rfl Kp.true (Y.nilCheck rfl rfl) ?_
        refine Jp.y 102 rfl (want_as rfl rfl rfl rfl) rfl rfl Kp.true (Y.fieldAddr rfl rfl Try.underlying53 rfl Try.sizeOf3 (by decide)) ?_
        refine Jp.y 103 rfl (want_as rfl rfl rfl rfl) rfl rfl Kp.true (by first | exact Y.loadO 2 rfl Try.isAgg3 rfl rfl rfl | exact Y.loadR rfl Try.isAgg3 rfl hc0 | exact Y.loadR rfl Try.isAgg3 rfl hc1) ?_
        refine Jp.y 104 rfl (want_as rfl rfl rfl rfl) rfl rfl Kp.true (Y.neq rfl rfl rfl) ?_
        refine Jp.y 105 rfl (want_all rfl) rfl rfl Kp.true (Y.pickF rfl rfl rfl) ?_
        refine Jp.y 106 rfl (want_all rfl) rfl rfl Kp.true (Y.move rfl rfl) ?_
        refine Jp.split 106 rfl (fun g106 => ?_) (fun g106 => ?_)
        · skip
          exact absurd g106 (by simp)
        try simp only [decide_eq_false_iff_not, decide_eq_true_eq, Int.not_lt, Int.not_le, Bool.not_eq_false, Bool.not_eq_true, Bool.not_true, Bool.not_false, Bool.not_eq_true', Bool.not_eq_false', beq_eq_false_iff_ne, ne_eq, beq_iff_eq, bne_iff_ne, Classical.not_not] at g106
        refine Jp.y 107 rfl (want_as rfl rfl rfl rfl) rfl rfl Kp.true (Y.move rfl rfl) ?_
        refine Jp.y 108 rfl (want_as rfl rfl rfl rfl) rfl rfl Kp.true (Y.move rfl rfl) ?_
        refine Jp.y 109 rfl (want_as rfl rfl rfl rfl) rfl rfl Kp.true (Y.nilCheck rfl rfl) ?_
        refine Jp.y 110 rfl (want_as rfl rfl rfl rfl) rfl rfl Kp.true (Y.fieldAddr rfl rfl Try.underlying53 rfl Try.sizeOf3 (by decide)) ?_
        refine Jp.y 111 rfl (want_as rfl rfl rfl rfl) rfl rfl Kp.true (by first | exact Y.loadO 2 rfl Try.isAgg3 rfl rfl rfl | exact Y.loadR rfl Try.isAgg3 rfl hc0 | exact Y.loadR rfl Try.isAgg3 rfl hc1) ?_
        refine Jp.y 112 rfl (want_as rfl rfl rfl rfl) rfl rfl Kp.true (Y.neq rfl rfl rfl) ?_
        refine Jp.y 113 rfl (want_all rfl) rfl rfl Kp.true (Y.pickF rfl rfl rfl) ?_
        refine Jp.done hK25 ?_
        refine Cd.cond rfl (fun g113 => ?_) (fun g113 => ?_)
        · skip
          exact absurd g113 (by simp)
        try simp only [decide_eq_false_iff_not, decide_eq_true_eq, Int.not_lt, Int.not_le, Bool.not_eq_false, Bool.not_eq_true, Bool.not_true, Bool.not_false, Bool.not_eq_true', Bool.not_eq_false', beq_eq_false_iff_ne, ne_eq, beq_iff_eq, bne_iff_ne, Classical.not_not] at g113
        refine Cd.over rfl hK14 ?_
        refine Cd.plain [(0, false), (1, false), (2, false)] rfl rfl ?_
        refine Jp.y 30 rfl (want_all rfl) rfl rfl Kp.true (Y.move rfl rfl) ?_
        refine Jp.y 31 rfl (want_all rfl) rfl rfl Kp.true (Y.add_ rfl rfl rfl (by first | exact wrap_i64 (by omega) (by omega) | rfl)) ?_
        refine Jp.y 7 rfl (want_all rfl) rfl rfl Kp.true (Y.assign rfl rfl) ?_
        refine Jp.again hLa (k + 1, b, u7, w8) ⟨by dsimp only; omega, hu7, hw8, hpq⟩ (by dsimp only; omega) rfl ⟨rfl, rfl, rfl, rfl, trivial⟩ ⟨rfl, rfl, trivial⟩
      · skip
        refine Cd.seq fun K26 hK26 => ?_
        refine Cd.plain [(0, false), (1, false)] rfl rfl ?_
        refine Jp.y 76 rfl (want_all rfl) rfl rfl Kp.true (Y.eql rfl rfl rfl) ?_
        refine Jp.y 75 rfl (want_all rfl) rfl rfl Kp.true (Y.assign rfl rfl) ?_
        refine Jp.done hK26 ?_
        refine Cd.cond rfl (fun g2 => ?_) (fun g2 => ?_)
        · skip
          refine Cd.plain [(0, false), (1, false), (2, false), (3, false), (4, false), (5, false)] rfl rfl ?_
          refine Jp.y 77 rfl (want_all rfl) rfl rfl Kp.true (Y.move rfl rfl) ?_
          refine Jp.call [1] [1] (f26_spec b u) 78 rfl (want_all rfl) rfl rfl (Runs.fn rfl Try.call26 rfl) (by decide) (by decide) rfl ok2 ?_
          rintro v7 ρ7 L7 ⟨rfl, rfl, A7, rfl, u7, rfl, hu7, hp7⟩
          refine ⟨rfl, fun hle7 => ⟨Kp.true, ?_⟩⟩
          refine Jp.y 79 rfl (want_all rfl) rfl rfl Kp.true (Y.move rfl rfl) ?_
          refine Jp.call [2] [2] (f27_spec b2 w) 80 rfl (want_all rfl) rfl rfl (Runs.fn rfl Try.call27 rfl) (by decide) (by decide) rfl ok3 ?_
          rintro v8 ρ8 L8 ⟨rfl, rfl, A8, rfl, w8, rfl, hw8, hp8⟩
          refine ⟨rfl, fun hle8 => ⟨Kp.true, ?_⟩⟩
          rw [ok4]
          refine Jp.y 81 rfl (want_all rfl) rfl rfl Kp.true (Y.eql rfl rfl rfl) ?_
          rw [beq_self_eq_true]
          refine Jp.y 8 rfl (want_all rfl) rfl rfl Kp.true (Y.assign rfl rfl) ?_
          refine Jp.over rfl hK16 ?_
          refine Cd.seq fun K27 hK27 => ?_
          refine Cd.plain [(0, false), (1, false), (2, false), (3, false), (4, false), (5, false), (6, false), (7, false), (8, false)] rfl rfl ?_
          refine Jp.y 83 rfl (want_all rfl) rfl rfl Kp.true (Y.move rfl rfl) ?_
          refine Jp.call [1] [1] (f19_spec b u7) 84 rfl (want_all rfl) rfl rfl (Runs.fn rfl Try.call19 rfl) (by decide) (by decide) rfl trivial ?_
          rintro v9 ρ9 L9 ⟨rfl, rfl, rfl⟩
          refine ⟨rfl, fun hle9 => ⟨Kp.true, ?_⟩⟩
          have hpq : (u7).p = (w8).p := (by rw [hp7, hp8, ok4])
          rw [show (u7).shorts = (w8).shorts from congrArg UseP.shorts hpq, show (u7).bytes = (w8).bytes from congrArg UseP.bytes hpq, show (u7).clocks = (w8).clocks from congrArg UseP.clocks hpq]
          refine Jp.y 82 rfl (want_all rfl) rfl rfl Kp.true (Y.move rfl rfl) ?_
          refine Jp.y 85 rfl (want_all rfl) rfl rfl Kp.true (Y.extract rfl rfl rfl) ?_
          refine Jp.y 86 rfl (want_all rfl) rfl rfl Kp.true (Y.extract rfl rfl rfl) ?_
          refine Jp.y 87 rfl (want_all rfl) rfl rfl Kp.true (Y.extract rfl rfl rfl) ?_
          refine Jp.y 9 rfl (want_all rfl) rfl rfl Kp.true (Y.assign rfl rfl) ?_
          refine Jp.y 10 rfl (want_all rfl) rfl rfl Kp.true (Y.assign rfl rfl) ?_
          refine Jp.y 11 rfl (want_all rfl) rfl rfl Kp.true (Y.assign rfl rfl) ?_
          refine Jp.done hK27 ?_
          refine Cd.seq fun K28 hK28 => ?_
          refine Cd.plain [(0, false), (1, false), (2, false), (3, false), (4, false), (5, false), (6, false), (7, false), (8, false), (9, false), (10, false), (11, false), (12, false), (13, false), (14, false), (15, false), (16, false), (17, false), (18, false), (19, false), (20, false), (21, false), (22, false), (23, false), (24, false), (25, false)] rfl rfl ?_
          refine Jp.y 88 rfl (want_all rfl) rfl rfl Kp.true (Y.move rfl rfl) ?_
          refine Jp.y 89 rfl (want_all rfl) rfl rfl Kp.true (Y.not rfl rfl) ?_
          refine Jp.y 90 rfl (want_all rfl) rfl rfl Kp.true (Y.move rfl rfl) ?_
          refine Jp.split 90 rfl (fun g90 => ?_) (fun g90 => ?_)
          · skip
            exact absurd g90 (by simp)
          try simp only [decide_eq_false_iff_not, decide_eq_true_eq, Int.not_lt, Int.not_le, Bool.not_eq_false, Bool.not_eq_true, Bool.not_true, Bool.not_false, Bool.not_eq_true', Bool.not_eq_false', beq_eq_false_iff_ne, ne_eq, beq_iff_eq, bne_iff_ne, Classical.not_not] at g90
          refine Jp.y 91 rfl (want_as rfl rfl rfl rfl) rfl rfl Kp.true (Y.move rfl rfl) ?_
          refine Jp.y 92 rfl (want_as rfl rfl rfl rfl) rfl rfl Kp.true (Y.move rfl rfl) ?_
          refine Jp.y 93 rfl (want_as rfl rfl rfl rfl) rfl rfl Kp.true (Y.nilCheck rfl rfl) ?_
          refine Jp.y 94 rfl (want_as rfl rfl rfl rfl) rfl rfl Kp.true (Y.fieldAddr rfl rfl Try.underlying53 rfl Try.sizeOf3 (by decide)) ?_
          refine Jp.y 95 rfl (want_as rfl rfl rfl rfl) rfl rfl Kp.true (by first | exact Y.loadO 2 rfl Try.isAgg3 rfl rfl rfl | exact Y.loadR rfl Try.isAgg3 rfl hc0 | exact Y.loadR rfl Try.isAgg3 rfl hc1) ?_
          refine Jp.y 96 rfl (want_as rfl rfl rfl rfl) rfl rfl Kp.true (Y.neq rfl rfl rfl) ?_
          refine Jp.y 97 rfl (want_all rfl) rfl rfl Kp.true (Y.pickF rfl rfl rfl) ?_
          refine Jp.y 98 rfl (want_all rfl) rfl rfl Kp.true (Y.move rfl rfl) ?_
          refine Jp.split 98 rfl (fun g98 => ?_) (fun g98 => ?_)
          · skip
            exact absurd g98 (by simp)
          try simp only [decide_eq_false_iff_not, decide_eq_true_eq, Int.not_lt, Int.not_le, Bool.not_eq_false, Bool.not_eq_true, Bool.not_true, Bool.not_false, Bool.not_eq_true', Bool.not_eq_false', beq_eq_false_iff_ne, ne_eq, beq_iff_eq, bne_iff_ne, Classical.not_not] at g98
          refine Jp.y 99 rfl (want_as rfl rfl rfl rfl) rfl rfl Kp.true (Y.move rfl rfl) ?_
          refine Jp.y 100 rfl (want_as rfl rfl rfl rfl) rfl rfl Kp.true (Y.move rfl rfl) ?_
          refine Jp.y 101 rfl (want_as rfl rfl rfl rfl) rfl rfl Kp.true (Y.nilCheck rfl rfl) ?_
          refine Jp.y 102 rfl (want_as rfl rfl rfl rfl) rfl rfl Kp.true (Y.fieldAddr rfl rfl Try.underlying53 rfl Try.sizeOf3 (by decide)) ?_
          refine Jp.y 103 rfl (want_as rfl rfl rfl rfl) rfl rfl Kp.true (by first | exact Y.loadO 2 rfl Try.isAgg3 rfl rfl rfl | exact Y.loadR rfl Try.isAgg3 rfl hc0 | exact Y.loadR rfl Try.isAgg3 rfl hc1) ?_
          refine Jp.y 104 rfl (want_as rfl rfl rfl rfl) rfl rfl Kp.true (Y.neq rfl rfl rfl) ?_
          refine Jp.y 105 rfl (want_all rfl) rfl rfl Kp.true (Y.pickF rfl rfl rfl) ?_
          refine Jp.y 106 rfl (want_all rfl) rfl rfl Kp.true (Y.move rfl rfl) ?_
          refine Jp.split 106 rfl (fun g106 => ?_) (fun g106 => ?_)
          · skip
            exact absurd g106 (by simp)
          try simp only [decide_eq_false_iff_not, decide_eq_true_eq, Int.not_lt, Int.not_le, Bool.not_eq_false, Bool.not_eq_true, Bool.not_true, Bool.not_false, Bool.not_eq_true', Bool.not_eq_false', beq_eq_false_iff_ne, ne_eq, beq_iff_eq, bne_iff_ne, Classical.not_not] at g106
          refine Jp.y 107 rfl (want_as rfl rfl rfl rfl) rfl rfl Kp.true (Y.move rfl rfl) ?_
          refine Jp.y 108 rfl (want_as rfl rfl rfl rfl) rfl rfl Kp.true (Y.move rfl rfl) ?_
          refine Jp.y 109 rfl (want_as rfl rfl rfl rfl) rfl rfl Kp.true (Y.nilCheck rfl rfl) ?_
          refine Jp.y 110 rfl (want_as rfl rfl rfl rfl) rfl rfl Kp.true (Y.fieldAddr rfl rfl Try.underlying53 rfl Try.sizeOf3 (by decide)) ?_
          refine Jp.y 111 rfl (want_as rfl rfl rfl rfl) rfl rfl Kp.true (by first | exact Y.loadO 2 rfl Try.isAgg3 rfl rfl rfl | exact Y.loadR rfl Try.isAgg3 rfl hc0 | exact Y.loadR rfl Try.isAgg3 rfl hc1) ?_
          refine Jp.y 112 rfl (want_as rfl rfl rfl rfl) rfl rfl Kp.true (Y.neq rfl rfl rfl) ?_
          refine Jp.y 113 rfl (want_all rfl) rfl rfl Kp.true (Y.pickF rfl rfl rfl) ?_
          refine Jp.done hK28 ?_
          refine Cd.cond rfl (fun g113 => ?_) (fun g113 => ?_)
          · skip
            exact absurd g113 (by simp)
          try simp only [decide_eq_false_iff_not, decide_eq_true_eq, Int.not_lt, Int.not_le, Bool.not_eq_false, Bool.not_eq_true, Bool.not_true, Bool.not_false, Bool.not_eq_true', Bool.not_eq_false', beq_eq_false_iff_ne, ne_eq, beq_iff_eq, bne_iff_ne, Classical.not_not] at g113
          refine Cd.over rfl hK14 ?_
          refine Cd.plain [(0, false), (1, false), (2, false)] rfl rfl ?_
          refine Jp.y 30 rfl (want_all rfl) rfl rfl Kp.true (Y.move rfl rfl) ?_
          refine Jp.y 31 rfl (want_all rfl) rfl rfl Kp.true (Y.add_ rfl rfl rfl (by first | exact wrap_i64 (by omega) (by omega) | rfl)) ?_
          refine Jp.y 7 rfl (want_all rfl) rfl rfl Kp.true (Y.assign rfl rfl) ?_
          refine Jp.again hLa (k + 1, b, u7, w8) ⟨by dsimp only; omega, hu7, hw8, hpq⟩ (by dsimp only; omega) rfl ⟨rfl, rfl, rfl, rfl, trivial⟩ ⟨rfl, rfl, trivial⟩
        · skip
          refine Cd.plain [(0, false), (1, false), (2, false)] rfl rfl ?_
          refine Jp.y 37 rfl (want_all rfl) rfl rfl Kp.true (Y.move rfl rfl) ?_
          refine Jp.call [1] [3, 1] (f28_spec b u) 38 rfl (want_all rfl) rfl rfl (Runs.fn rfl Try.call28 rfl) (by decide) (by decide) rfl trivial ?_
          rintro v7 ρ7 L7 ⟨rfl, b7, rfl, rfl⟩
          refine ⟨rfl, fun hle7 => ⟨Kp.true, ?_⟩⟩
          refine Jp.y 5 rfl (want_all rfl) rfl rfl Kp.true (Y.assign rfl rfl) ?_
          refine Jp.over rfl hK16 ?_
          refine Cd.seq fun K29 hK29 => ?_
          refine Cd.plain [(0, false), (1, false), (2, false), (3, false), (4, false), (5, false), (6, false), (7, false), (8, false)] rfl rfl ?_
          refine Jp.y 83 rfl (want_all rfl) rfl rfl Kp.true (Y.move rfl rfl) ?_
          refine Jp.call [1] [1] (f19_spec b7 u) 84 rfl (want_all rfl) rfl rfl (Runs.fn rfl Try.call19 rfl) (by decide) (by decide) rfl trivial ?_
          rintro v9 ρ9 L9 ⟨rfl, rfl, rfl⟩
          refine ⟨rfl, fun hle9 => ⟨Kp.true, ?_⟩⟩
          have hpq : (u).p = (w).p := ok4
          rw [show (u).shorts = (w).shorts from congrArg UseP.shorts hpq, show (u).bytes = (w).bytes from congrArg UseP.bytes hpq, show (u).clocks = (w).clocks from congrArg UseP.clocks hpq]
          refine Jp.y 82 rfl (want_all rfl) rfl rfl Kp.true (Y.move rfl rfl) ?_
          refine Jp.y 85 rfl (want_all rfl) rfl rfl Kp.true (Y.extract rfl rfl rfl) ?_
          refine Jp.y 86 rfl (want_all rfl) rfl rfl Kp.true (Y.extract rfl rfl rfl) ?_
          refine Jp.y 87 rfl (want_all rfl) rfl rfl Kp.true (Y.extract rfl rfl rfl) ?_
          refine Jp.y 9 rfl (want_all rfl) rfl rfl Kp.true (Y.assign rfl rfl) ?_
          refine Jp.y 10 rfl (want_all rfl) rfl rfl Kp.true (Y.assign rfl rfl) ?_
          refine Jp.y 11 rfl (want_all rfl) rfl rfl Kp.true (Y.assign rfl rfl) ?_
          refine Jp.done hK29 ?_
          refine Cd.seq fun K30 hK30 => ?_
          refine Cd.plain [(0, false), (1, false), (2, false), (3, false), (4, false), (5, false), (6, false), (7, false), (8, false), (9, false), (10, false), (11, false), (12, false), (13, false), (14, false), (15, false), (16, false), (17, false), (18, false), (19, false), (20, false), (21, false), (22, false), (23, false), (24, false), (25, false)] rfl rfl ?_
          refine Jp.y 88 rfl (want_all rfl) rfl rfl Kp.true (Y.move rfl rfl) ?_
          refine Jp.y 89 rfl (want_all rfl) rfl rfl Kp.true (Y.not rfl rfl) ?_
          refine Jp.y 90 rfl (want_all rfl) rfl rfl Kp.true (Y.move rfl rfl) ?_
          refine Jp.y 91 rfl (want_as rfl rfl rfl rfl) rfl rfl Kp.true (Y.move rfl rfl) ?_
          refine Jp.y 92 rfl (want_as rfl rfl rfl rfl) rfl rfl Kp.true (Y.move rfl rfl) ?_
          refine Jp.y 93 rfl (want_as rfl rfl rfl rfl) rfl rfl Kp.true (Y.nilCheck rfl rfl) ?_
          refine Jp.y 94 rfl (want_as rfl rfl rfl rfl) rfl rfl Kp.true (Y.fieldAddr rfl rfl Try.underlying53 rfl Try.sizeOf3 (by decide)) ?_
          refine Jp.y 95 rfl (want_as rfl rfl rfl rfl) rfl rfl Kp.true (by first | exact Y.loadO 2 rfl Try.isAgg3 rfl rfl rfl | exact Y.loadR rfl Try.isAgg3 rfl hc0 | exact Y.loadR rfl Try.isAgg3 rfl hc1) ?_
          refine Jp.y 96 rfl (want_as rfl rfl rfl rfl) rfl rfl Kp.true (Y.neq rfl rfl rfl) ?_
          refine Jp.y 97 rfl (want_all rfl) rfl rfl Kp.true (Y.pickF rfl rfl rfl) ?_
          refine Jp.y 98 rfl (want_all rfl) rfl rfl Kp.true (Y.move rfl rfl) ?_
          refine Jp.split 98 rfl (fun g98 => ?_) (fun g98 => ?_)
          · skip
            exact absurd g98 (by simp)
          try simp only [decide_eq_false_iff_not, decide_eq_true_eq, Int.not_lt, Int.not_le, Bool.not_eq_false, Bool.not_eq_true, Bool.not_true, Bool.not_false, Bool.not_eq_true', Bool.not_eq_false', beq_eq_false_iff_ne, ne_eq, beq_iff_eq, bne_iff_ne, Classical.not_not] at g98
          refine Jp.y 99 rfl (want_as rfl rfl rfl rfl) rfl rfl Kp.true (Y.move rfl rfl) ?_
          refine Jp.y 100 rfl (want_as rfl rfl rfl rfl) rfl rfl Kp.true (Y.move rfl rfl) ?_
          refine Jp.y 101 rfl (want_as rfl rfl rfl rfl) rfl rfl Kp.true (Y.nilCheck rfl rfl) ?_
          refine Jp.y 102 rfl (want_as rfl rfl rfl rfl) rfl rfl Kp.true (Y.fieldAddr rfl rfl Try.underlying53 rfl Try.sizeOf3 (by decide)) ?_
          refine Jp.y 103 rfl (want_as rfl rfl rfl rfl) rfl rfl Kp.true (by first | exact Y.loadO 2 rfl Try.isAgg3 rfl rfl rfl | exact Y.loadR rfl Try.isAgg3 rfl hc0 | exact Y.loadR rfl Try.isAgg3 rfl hc1) ?_
          refine Jp.y 104 rfl (want_as rfl rfl rfl rfl) rfl rfl Kp.true (Y.neq rfl rfl rfl) ?_
          refine Jp.y 105 rfl (want_all rfl) rfl rfl Kp.true (Y.pickF rfl rfl rfl) ?_
          refine Jp.y 106 rfl (want_all rfl) rfl rfl Kp.true (Y.move rfl rfl) ?_
          refine Jp.split 106 rfl (fun g106 => ?_) (fun g106 => ?_)
          · skip
            exact absurd g106 (by simp)
          try simp only [decide_eq_false_iff_not, decide_eq_true_eq, Int.not_lt, Int.not_le, Bool.not_eq_false, Bool.not_eq_true, Bool.not_true, Bool.not_false, Bool.not_eq_true', Bool.not_eq_false', beq_eq_false_iff_ne, ne_eq, beq_iff_eq, bne_iff_ne, Classical.not_not] at g106
          refine Jp.y 107 rfl (want_as rfl rfl rfl rfl) rfl rfl Kp.true (Y.move rfl rfl) ?_
          refine Jp.y 108 rfl (want_as rfl rfl rfl rfl) rfl rfl Kp.true (Y.move rfl rfl) ?_
          refine Jp.y 109 rfl (want_as rfl rfl rfl rfl) rfl rfl Kp.true (Y.nilCheck rfl rfl) ?_
          refine Jp.y 110 rfl (want_as rfl rfl rfl rfl) rfl rfl Kp.true (Y.fieldAddr rfl rfl Try.underlying53 rfl Try.sizeOf3 (by decide)) ?_
          refine Jp.y 111 rfl (want_as rfl rfl rfl rfl) rfl rfl Kp.true (by first | exact Y.loadO 2 rfl Try.isAgg3 rfl rfl rfl | exact Y.loadR rfl Try.isAgg3 rfl hc0 | exact Y.loadR rfl Try.isAgg3 rfl hc1) ?_
          refine Jp.y 112 rfl (want_as rfl rfl rfl rfl) rfl rfl Kp.true (Y.neq rfl rfl rfl) ?_
          refine Jp.y 113 rfl (want_all rfl) rfl rfl Kp.true (Y.pickF rfl rfl rfl) ?_
          refine Jp.done hK30 ?_
          refine Cd.cond rfl (fun g113 => ?_) (fun g113 => ?_)
          · skip
            exact absurd g113 (by simp)
          try simp only [decide_eq_false_iff_not, decide_eq_true_eq, Int.not_lt, Int.not_le, Bool.not_eq_false, Bool.not_eq_true, Bool.not_true, Bool.not_false, Bool.not_eq_true', Bool.not_eq_false', beq_eq_false_iff_ne, ne_eq, beq_iff_eq, bne_iff_ne, Classical.not_not] at g113
          refine Cd.over rfl hK14 ?_
          refine Cd.plain [(0, false), (1, false), (2, false)] rfl rfl ?_
          refine Jp.y 30 rfl (want_all rfl) rfl rfl Kp.true (Y.move rfl rfl) ?_
          refine Jp.y 31 rfl (want_all rfl) rfl rfl Kp.true (Y.add_ rfl rfl rfl (by first | exact wrap_i64 (by omega) (by omega) | rfl)) ?_
          refine Jp.y 7 rfl (want_all rfl) rfl rfl Kp.true (Y.assign rfl rfl) ?_
          refine Jp.again hLa (k + 1, b7, u, w) ⟨by dsimp only; omega, ok2, ok3, hpq⟩ (by dsimp only; omega) rfl ⟨rfl, rfl, rfl, rfl, trivial⟩ ⟨rfl, rfl, trivial⟩
  · skip
    refine Cd.exit rfl hK10 ?_
    refine Cd.seq fun K31 hK31 => ?_
    refine Cd.plain [(0, false)] rfl rfl ?_
    refine Jp.y 4 rfl (want_all rfl) rfl rfl Kp.true (Y.assign rfl rfl) ?_
    refine Jp.done hK31 ?_
    refine Cd.ret [] rfl (res1 rfl rfl) trivial ⟨rfl, rfl⟩
end Go.Proofs.Ytjjhihlmoecmlaa
