/- Contract: FeedBack. -/
import Derived.Test.YtjjhihlmoecmlaaFeedZC
set_option linter.unusedVariables false
set_option linter.unusedSimpArgs false
set_option maxRecDepth 100000
namespace Go.Proofs.Ytjjhihlmoecmlaa
open Go
theorem back_more {f : FeedP} (hg : good f = true) (hc : ∀ x ∈ f.clock, 0 ≤ x ∧ x < 4294967296) {more : Bytes} (h : 0 < more.length) : getP (putFeedP f ++ more) = none := by
  have h1 := put_get hg hc more
  cases h2 : getP (putFeedP f ++ more) with
  | none => rfl
  | some g =>
    have h3 := (getP_some.1 h2).1
    rw [h1] at h3
    have h4 := (Prod.mk.inj (Option.some.inj h3)).2
    rw [h4] at h; exact absurd h (Nat.lt_irrefl _)
theorem back_cut {f : FeedP} (hg : good f = true) (hc : ∀ x ∈ f.clock, 0 ≤ x ∧ x < 4294967296) {k : Nat} (h : k < (putFeedP f).length) : getP ((putFeedP f).take k) = none := by
  have h1 := put_get hg hc []
  rw [List.append_nil] at h1
  cases h2 : getP ((putFeedP f).take k) with
  | none => rfl
  | some g =>
    have h3 := ext_feed _ _ _ ((putFeedP f).drop k) (getP_some.1 h2).1
    rw [List.take_append_drop, h1] at h3
    have h4 := (Prod.mk.inj (Option.some.inj h3)).2
    have h5 := congrArg List.length h4
    rw [List.nil_append, List.length_drop, List.length_nil] at h5
    omega
theorem back_same {f : FeedP} (hg : good f = true) (hc : ∀ x ∈ f.clock, 0 ≤ x ∧ x < 4294967296) : getP (putFeedP f) = some f := by
  have h1 := put_get hg hc []
  rw [List.append_nil] at h1
  exact getP_some.2 ⟨h1, hg⟩
theorem put_len {f : FeedP} (hg : good f = true) : (putFeedP f).length ≤ 50000 := by
  obtain ⟨g1, g2, g3, g4, g5, g6, g7, g8⟩ := good_lens hg
  have l1 := flat_len (enc := encText) (l := f.args) (m := 204) (fun x hx => by rw [encText_length]; have := g7 x hx; omega) f.args.length
  have l2 := flat_len (enc := encInt) (l := f.short) (m := 4) (fun x hx => Nat.le_of_eq (encInt_length x)) f.short.length
  have l3 := flat_len (enc := encInt) (l := f.clock) (m := 4) (fun x hx => Nat.le_of_eq (encInt_length x)) f.clock.length
  have l4 := flat_len (enc := encFile) (l := f.files) (m := 4144) (fun x hx => by
    have := g8 x hx
    show (encText x.1 ++ encText x.2).length ≤ _
    rw [List.length_append, encText_length, encText_length]; omega) f.files.length
  rw [List.take_of_length_le (Nat.le_refl _)] at l1 l2 l3 l4
  have m1 : f.args.length * 204 ≤ 16 * 204 := Nat.mul_le_mul_right _ g1
  have m4 : f.files.length * 4144 ≤ 8 * 4144 := Nat.mul_le_mul_right _ g4
  simp only [putFeedP, List.length_append, leB_length, encText_length]
  omega
theorem feedBack_spec (f : FeedG) (cut : Int) (m : Sl UInt8) (hcf : ∀ x ∈ f.clock.xs, 0 ≤ x ∧ x < 4294967296) (h1 : -9223372036854775808 ≤ cut) (h2 : cut ≤ 9223372036854775807) : Spec Try.prog 11 #[.agg f.cells.toArray, .int .i64 cut, m.v] (fun h => RdFeed f h ∧ RdB m h) [] (fun ρ ρ' v L => v = .bool true ∧ L = []) := by
  obtain ⟨Am, cm, xm⟩ := m
  dsimp only [Sl.v]
  refine Spec.of 84 Try.func11 rfl Try.ntmps11 [(0, _), (1, _), (2, _)] rfl rfl ?_
  intro cx ρ hr h0
  obtain ⟨hr, hrm⟩ := hr
  refine Cd.seq fun K1 hK1 => ?_
  refine Cd.plain [(0, false), (1, false)] rfl rfl ?_
  refine Jp.box 0 3 rfl (want_all rfl) rfl rfl rfl rfl fun b0 => ⟨Kp.true, ?_⟩
  refine Jp.y 6 rfl (want_all rfl) rfl rfl Kp.true (Y.assign rfl rfl) ?_
  refine Jp.done hK1 ?_
  refine Cd.seq fun K2 hK2 => ?_
  refine Cd.seq fun K3 hK3 => ?_
  refine Cd.plain [(0, false), (1, false)] rfl rfl ?_
  refine Jp.call [] [] f15_spec 15 rfl (want_all rfl) rfl rfl (Runs.fn rfl Try.call15 rfl) (by decide) (by decide) rfl trivial ?_
  rintro v1 ρ1 L1 ⟨rfl, rfl⟩
  refine ⟨rfl, fun hle1 => ⟨Kp.true, ?_⟩⟩
  have hr := RdFeed.up _ _ _ hle1 hr
  have hrm := RdB.up _ _ _ hle1 hrm
  refine Jp.y 16 rfl (want_all rfl) rfl rfl Kp.true (Y.not rfl rfl) ?_
  refine Jp.done hK3 ?_
  refine Cd.cond rfl (fun g16 => ?_) (fun g16 => ?_)
  · skip
    exact absurd g16 (by simp)
  try simp only [decide_eq_false_iff_not, decide_eq_true_eq, Int.not_lt, Int.not_le, Bool.not_eq_false, Bool.not_eq_true, Bool.not_true, Bool.not_false, Bool.not_eq_true', Bool.not_eq_false', beq_eq_false_iff_ne, ne_eq, beq_iff_eq, bne_iff_ne, bne_eq_false_iff_eq, Classical.not_not] at g16
  refine Cd.skip hK2 ?_
  refine Cd.seq fun K4 hK4 => ?_
  refine Cd.seq fun K5 hK5 => ?_
  refine Cd.plain [(0, false), (1, false), (2, false), (3, false), (4, false), (5, false), (6, false), (7, false), (8, false), (9, false), (10, false), (11, false)] rfl rfl ?_
  refine Jp.y 17 rfl (want_all rfl) rfl rfl Kp.true (by first | exact Y.loadAggO 0 rfl Try.isAgg35 Try.sizeOf35 rfl rfl rfl | exact Y.loadAggO 0 rfl Try.isAgg35 Try.sizeOf35 rfl rfl rfl) ?_
  refine Jp.call [] [] (f21_spec f) 18 rfl (want_all rfl) rfl rfl (Runs.fn rfl Try.call21 rfl) (by decide) (by decide) rfl hr ?_
  rintro v2 ρ2 L2 ⟨rfl, ⟨gr, rfl, hgr⟩, rfl⟩
  refine ⟨rfl, fun hle2 => ⟨Kp.true, ?_⟩⟩
  refine Jp.y 19 rfl (want_all rfl) rfl rfl Kp.true (Y.move rfl rfl) ?_
  refine Jp.split 19 rfl (fun g19 => ?_) (fun g19 => ?_)
  · skip
    refine Jp.skip 20 rfl (want_as rfl rfl rfl rfl) rfl rfl Kp.true ?_
    refine Jp.skip 21 rfl (want_as rfl rfl rfl rfl) rfl rfl Kp.true ?_
    refine Jp.skip 22 rfl (want_as rfl rfl rfl rfl) rfl rfl Kp.true ?_
    refine Jp.y 23 rfl (want_all rfl) rfl rfl Kp.true (Y.pickT rfl rfl rfl) ?_
    refine Jp.y 24 rfl (want_all rfl) rfl rfl Kp.true (Y.move rfl rfl) ?_
    refine Jp.skip 25 rfl (want_as rfl rfl rfl rfl) rfl rfl Kp.true ?_
    refine Jp.skip 26 rfl (want_as rfl rfl rfl rfl) rfl rfl Kp.true ?_
    refine Jp.skip 27 rfl (want_as rfl rfl rfl rfl) rfl rfl Kp.true ?_
    refine Jp.y 28 rfl (want_all rfl) rfl rfl Kp.true (Y.pickT rfl rfl rfl) ?_
    refine Jp.done hK5 ?_
    refine Cd.condT rfl ?_
    refine Cd.seq fun K6 hK6 => ?_
    refine Cd.plain [(0, false)] rfl rfl ?_
    refine Jp.y 6 rfl (want_all rfl) rfl rfl Kp.true (Y.assign rfl rfl) ?_
    refine Jp.done hK6 ?_
    refine Cd.ret [] rfl (res1 rfl rfl) trivial ⟨rfl, rfl⟩
  try simp only [decide_eq_false_iff_not, decide_eq_true_eq, Int.not_lt, Int.not_le, Bool.not_eq_false, Bool.not_eq_true, Bool.not_true, Bool.not_false, Bool.not_eq_true', Bool.not_eq_false', beq_eq_false_iff_ne, ne_eq, beq_iff_eq, bne_iff_ne, bne_eq_false_iff_eq, Classical.not_not] at g19
  refine Jp.y 20 rfl (want_as rfl rfl rfl rfl) rfl rfl Kp.true (Y.move rfl rfl) ?_
  refine Jp.y 21 rfl (want_as rfl rfl rfl rfl) rfl rfl Kp.true (Y.lenslice rfl Try.underlying26 rfl) ?_
  refine Jp.y 22 rfl (want_as rfl rfl rfl rfl) rfl rfl Kp.true (Y.lss rfl rfl rfl) ?_
  refine Jp.y 23 rfl (want_all rfl) rfl rfl Kp.true (Y.pickF rfl rfl rfl) ?_
  refine Jp.y 24 rfl (want_all rfl) rfl rfl Kp.true (Y.move rfl rfl) ?_
  refine Jp.split 24 rfl (fun g24 => ?_) (fun g24 => ?_)
  · skip
    refine Jp.skip 25 rfl (want_as rfl rfl rfl rfl) rfl rfl Kp.true ?_
    refine Jp.skip 26 rfl (want_as rfl rfl rfl rfl) rfl rfl Kp.true ?_
    refine Jp.skip 27 rfl (want_as rfl rfl rfl rfl) rfl rfl Kp.true ?_
    refine Jp.y 28 rfl (want_all rfl) rfl rfl Kp.true (Y.pickT rfl rfl rfl) ?_
    refine Jp.done hK5 ?_
    refine Cd.condT rfl ?_
    refine Cd.seq fun K7 hK7 => ?_
    refine Cd.plain [(0, false)] rfl rfl ?_
    refine Jp.y 6 rfl (want_all rfl) rfl rfl Kp.true (Y.assign rfl rfl) ?_
    refine Jp.done hK7 ?_
    refine Cd.ret [] rfl (res1 rfl rfl) trivial ⟨rfl, rfl⟩
  try simp only [decide_eq_false_iff_not, decide_eq_true_eq, Int.not_lt, Int.not_le, Bool.not_eq_false, Bool.not_eq_true, Bool.not_true, Bool.not_false, Bool.not_eq_true', Bool.not_eq_false', beq_eq_false_iff_ne, ne_eq, beq_iff_eq, bne_iff_ne, bne_eq_false_iff_eq, Classical.not_not] at g24
  refine Jp.y 25 rfl (want_as rfl rfl rfl rfl) rfl rfl Kp.true (Y.move rfl rfl) ?_
  refine Jp.y 26 rfl (want_as rfl rfl rfl rfl) rfl rfl Kp.true (Y.lenslice rfl Try.underlying26 rfl) ?_
  refine Jp.y 27 rfl (want_as rfl rfl rfl rfl) rfl rfl Kp.true (Y.gtr rfl rfl rfl) ?_
  refine Jp.y 28 rfl (want_all rfl) rfl rfl Kp.true (Y.pickF rfl rfl rfl) ?_
  refine Jp.done hK5 ?_
  refine Cd.cond rfl (fun g28 => ?_) (fun g28 => ?_)
  · skip
    refine Cd.seq fun K8 hK8 => ?_
    refine Cd.plain [(0, false)] rfl rfl ?_
    refine Jp.y 6 rfl (want_all rfl) rfl rfl Kp.true (Y.assign rfl rfl) ?_
    refine Jp.done hK8 ?_
    refine Cd.ret [] rfl (res1 rfl rfl) trivial ⟨rfl, rfl⟩
  try simp only [decide_eq_false_iff_not, decide_eq_true_eq, Int.not_lt, Int.not_le, Bool.not_eq_false, Bool.not_eq_true, Bool.not_true, Bool.not_false, Bool.not_eq_true', Bool.not_eq_false', beq_eq_false_iff_ne, ne_eq, beq_iff_eq, bne_iff_ne, bne_eq_false_iff_eq, Classical.not_not] at g28
  refine Cd.skip hK4 ?_
  refine Cd.seq fun K9 hK9 => ?_
  refine Cd.plain [(0, false), (1, false), (2, false), (3, false), (4, false), (5, false), (6, false)] rfl rfl ?_
  have hf10 := hgr g19
  have hm1 : 0 < xm.length := by omega
  have hm2 : xm.length ≤ 50 := by omega
  refine Jp.y 30 rfl (want_all rfl) rfl rfl Kp.true (by first | exact Y.loadAggO 0 rfl Try.isAgg35 Try.sizeOf35 rfl rfl rfl | exact Y.loadAggO 0 rfl Try.isAgg35 Try.sizeOf35 rfl rfl rfl) ?_
  refine Jp.call [] [20, 3] (put_spec f hcf) 31 rfl (want_all rfl) rfl rfl (Runs.fn rfl Try.call40 rfl) (by decide) (by decide) rfl hr ?_
  rintro v3 ρ3 L3 ⟨rfl, A3, c3, rfl, rfl⟩
  refine ⟨rfl, fun hle3 => ⟨Kp.true, ?_⟩⟩
  obtain ⟨F, hF⟩ : ∃ F, f.p = F := ⟨_, rfl⟩
  rw [hF]
  have hcF : ∀ x ∈ F.clock, 0 ≤ x ∧ x < 4294967296 := by rw [← hF]; exact hcf
  rcases hg : good F with _ | _
  · rw [if_neg (by simp)]
    refine Jp.y 29 rfl (want_all rfl) rfl rfl Kp.true (Y.move rfl rfl) ?_
    refine Jp.y 32 rfl (want_all rfl) rfl rfl Kp.true (Y.extract rfl rfl rfl) ?_
    refine Jp.y 33 rfl (want_all rfl) rfl rfl Kp.true (Y.extract rfl rfl rfl) ?_
    refine Jp.y 7 rfl (want_all rfl) rfl rfl Kp.true (Y.assign rfl rfl) ?_
    refine Jp.y 8 rfl (want_all rfl) rfl rfl Kp.true (Y.assign rfl rfl) ?_
    refine Jp.done hK9 ?_
    refine Cd.seq fun K10 hK10 => ?_
    refine Cd.seq fun K11 hK11 => ?_
    refine Cd.plain [(0, false), (1, false)] rfl rfl ?_
    refine Jp.y 34 rfl (want_all rfl) rfl rfl Kp.true (Y.move rfl rfl) ?_
    refine Jp.y 35 rfl (want_all rfl) rfl rfl Kp.true (Y.neq rfl rfl rfl) ?_
    refine Jp.done hK11 ?_
    refine Cd.condF' rfl (fun g35 => ?_) (fun g35 => ?_)
    · skip
      exact absurd g35 (by simp)
    try simp only [decide_eq_false_iff_not, decide_eq_true_eq, Int.not_lt, Int.not_le, Bool.not_eq_false, Bool.not_eq_true, Bool.not_true, Bool.not_false, Bool.not_eq_true', Bool.not_eq_false', beq_eq_false_iff_ne, ne_eq, beq_iff_eq, bne_iff_ne, bne_eq_false_iff_eq, Classical.not_not] at g35
    refine Cd.seq fun K12 hK12 => ?_
    refine Cd.plain [(0, false), (1, false), (2, false), (3, false)] rfl rfl ?_
    refine Jp.y 36 rfl (want_all rfl) rfl rfl Kp.true (by first | exact Y.loadAggO 0 rfl Try.isAgg35 Try.sizeOf35 rfl rfl rfl | exact Y.loadAggO 0 rfl Try.isAgg35 Try.sizeOf35 rfl rfl rfl) ?_
    refine Jp.call [] [] (f43_spec f) 37 rfl (want_all rfl) rfl rfl (Runs.fn rfl Try.call43 rfl) (by decide) (by decide) rfl hr ?_
    rintro v4 ρ4 L4 ⟨rfl, rfl, rfl⟩
    refine ⟨rfl, fun hle4 => ⟨Kp.true, ?_⟩⟩
    rw [hF, hg]
    refine Jp.y 38 rfl (want_all rfl) rfl rfl Kp.true (Y.not rfl rfl) ?_
    refine Jp.y 6 rfl (want_all rfl) rfl rfl Kp.true (Y.assign rfl rfl) ?_
    refine Jp.done hK12 ?_
    refine Cd.ret [] rfl (res1 rfl rfl) trivial ⟨rfl, rfl⟩
  · rw [if_pos rfl, show putB F = putFeedP F by rw [putB, hg]; rfl]
    have hpl := put_len hg
    have b1 := back_same hg hcF
    have b2 := fun (more : Bytes) (h : 0 < more.length) => back_more hg hcF (more := more) h
    have b3 := fun k (h : k < (putFeedP F).length) => back_cut hg hcF (k := k) h
    obtain ⟨B, hB⟩ : ∃ B, putFeedP F = B := ⟨_, rfl⟩
    rw [hB] at hpl b1 b2 b3 ⊢
    refine Jp.y 29 rfl (want_all rfl) rfl rfl Kp.true (Y.move rfl rfl) ?_
    refine Jp.y 32 rfl (want_all rfl) rfl rfl Kp.true (Y.extract rfl rfl rfl) ?_
    refine Jp.y 33 rfl (want_all rfl) rfl rfl Kp.true (Y.extract rfl rfl rfl) ?_
    refine Jp.y 7 rfl (want_all rfl) rfl rfl Kp.true (Y.assign rfl rfl) ?_
    refine Jp.y 8 rfl (want_all rfl) rfl rfl Kp.true (Y.assign rfl rfl) ?_
    refine Jp.done hK9 ?_
    refine Cd.seq fun K13 hK13 => ?_
    refine Cd.seq fun K14 hK14 => ?_
    refine Cd.plain [(0, false), (1, false)] rfl rfl ?_
    refine Jp.y 34 rfl (want_all rfl) rfl rfl Kp.true (Y.move rfl rfl) ?_
    refine Jp.y 35 rfl (want_all rfl) rfl rfl Kp.true (Y.neq rfl rfl rfl) ?_
    refine Jp.done hK14 ?_
    refine Cd.cond rfl (fun g35 => ?_) (fun g35 => ?_)
    · skip
      exact absurd g35 (by simp)
    try simp only [decide_eq_false_iff_not, decide_eq_true_eq, Int.not_lt, Int.not_le, Bool.not_eq_false, Bool.not_eq_true, Bool.not_true, Bool.not_false, Bool.not_eq_true', Bool.not_eq_false', beq_eq_false_iff_ne, ne_eq, beq_iff_eq, bne_iff_ne, bne_eq_false_iff_eq, Classical.not_not] at g35
    refine Cd.skip hK13 ?_
    refine Cd.seq fun K15 hK15 => ?_
    refine Cd.plain [(0, false), (1, false), (2, false), (3, false), (4, false), (5, false), (6, false), (7, false)] rfl rfl ?_
    refine Jp.freeze (i := 3) rfl (OwnS.up _ _ _ _ _ _) fun ρ4 l4 q4 => ?_
    have hr := RdFeed.up _ _ _ l4 hr
    have hrm := RdB.up _ _ _ l4 hrm
    have hb : RdB ⟨A3, c3, B⟩ ρ4 := q4.rd
    refine Jp.y 40 rfl (want_all rfl) rfl rfl Kp.true (Y.move rfl rfl) ?_
    refine Jp.call [] [] (get_spec ⟨A3, c3, B⟩) 41 rfl (want_all rfl) rfl rfl (Runs.fn rfl Try.call38 rfl) (by decide) (by decide) rfl hb ?_
    rintro v5 ρ5 L5 ⟨g1, rfl, rfl, hg1, hp1, hc1⟩
    refine ⟨rfl, fun hle5 => ⟨Kp.true, ?_⟩⟩
    have hr := RdFeed.up _ _ _ hle5 hr
    have hrm := RdB.up _ _ _ hle5 hrm
    have hb := RdB.up _ _ _ hle5 hb
    rw [show getErr (⟨A3, c3, B⟩ : Sl UInt8).xs = 0 from getErr_some b1]
    have hp1 : g1.p = F := by rw [hp1]; show (getP B).getD feedP0 = F; rw [b1]; rfl
    have hn1 : g1.files.xs.length ≤ 10 := by
      have h1 : g1.p.files.length = g1.files.xs.length := by simp [FeedG.p]
      rw [← h1, hp1]; have := (good_lens hg).2.2.2.1; omega
    refine Jp.y 39 rfl (want_all rfl) rfl rfl Kp.true (Y.move rfl rfl) ?_
    refine Jp.y 42 rfl (want_all rfl) rfl rfl Kp.true (Y.extract rfl rfl rfl) ?_
    refine Jp.y 43 rfl (want_all rfl) rfl rfl Kp.true (Y.extract rfl rfl rfl) ?_
    refine Jp.alloc 1 9 rfl (want_all rfl) rfl rfl rfl Try.zeroValue35 fun b1 => ⟨Kp.true, ?_⟩
    first | refine Jp.storeAgg 0 rfl (want_all rfl) rfl rfl Try.sizeOf35 rfl rfl rfl rfl rfl rfl (fun k _ _ => noFr0 k) Kp.true ?_ | refine Jp.storeAgg 1 rfl (want_all rfl) rfl rfl Try.sizeOf35 rfl rfl rfl rfl rfl rfl (fun k _ _ => noFr0 k) Kp.true ?_
    refine Jp.y 10 rfl (want_all rfl) rfl rfl Kp.true (Y.assign rfl rfl) ?_
    refine Jp.done hK15 ?_
    refine Cd.seq fun K16 hK16 => ?_
    refine Cd.plain [(0, false), (1, false), (2, false), (3, false), (4, false), (5, false), (6, false), (7, false), (8, false), (9, false), (10, false), (11, false)] rfl rfl ?_
    refine Jp.lit 45 4 [] [] rfl (want_all rfl) rfl rfl rfl rfl Try.underlying26 Try.sizeOf5 Try.zeroValue5 rfl rfl rfl rfl rfl fun b4 => ⟨Kp.true, ?_⟩
    refine Jp.y 46 rfl (want_all rfl) rfl rfl Kp.true (Y.move rfl rfl) ?_
    have hB2 : B.length + xm.length ≤ 100000 := by omega
    refine Jp.append 47 4 rfl (want_all rfl) rfl rfl rfl Try.underlying26 Try.underlying26 (.inl ⟨_, rfl⟩) Try.sizeOf5 Try.typeInfo5 Try.zeroValue5 rfl (by decide) rfl rfl rfl (Src.rd hb) (bytesV_one _) (B.length) (bytesV B) (by first | omega | simp) (List.nil_append _) (by simp only [Try.t5]; omega) fun A6 c6 => ⟨Kp.true, ?_⟩
    have hlen : (B ++ xm).length = B.length + xm.length := List.length_append
    refine Jp.y 48 rfl (want_all rfl) rfl rfl Kp.true (Y.move rfl rfl) ?_
    refine Jp.append 49 4 rfl (want_all rfl) rfl rfl rfl Try.underlying26 Try.underlying26 (.inl ⟨_, rfl⟩) Try.sizeOf5 Try.typeInfo5 Try.zeroValue5 rfl (by decide) rfl rfl rfl (Src.rd hrm) (bytesV_one _) ((B ++ xm).length) (bytesV (B ++ xm)) (by first | omega | simp) (by show bytesV B ++ bytesV xm = _; exact List.map_append.symm) (by simp only [Try.t5]; omega) fun A7 c7 => ⟨Kp.true, ?_⟩
    refine Jp.freeze (i := 4) rfl (OwnS.up _ _ _ _ _ _) fun ρ8 l8 q8 => ?_
    have hr := RdFeed.up _ _ _ l8 hr
    have hb := RdB.up _ _ _ l8 hb
    have hg1 := RdFeed.up _ _ _ l8 hg1
    refine Jp.call [] [] (get_spec ⟨A7, c7, B ++ xm⟩) 50 rfl (want_all rfl) rfl rfl (Runs.fn rfl Try.call38 rfl) (by decide) (by decide) rfl q8.rd ?_
    rintro v9 ρ9 L9 ⟨g2, rfl, rfl, hg2, hp2, hc2⟩
    refine ⟨rfl, fun hle9 => ⟨Kp.true, ?_⟩⟩
    have hr := RdFeed.up _ _ _ hle9 hr
    have hb := RdB.up _ _ _ hle9 hb
    have hg1 := RdFeed.up _ _ _ hle9 hg1
    rw [show getErr (⟨A7, c7, B ++ xm⟩ : Sl UInt8).xs = 3 from getErr_none (b2 xm hm1)]
    refine Jp.y 44 rfl (want_all rfl) rfl rfl Kp.true (Y.move rfl rfl) ?_
    refine Jp.y 51 rfl (want_all rfl) rfl rfl Kp.true (Y.extract rfl rfl rfl) ?_
    refine Jp.y 52 rfl (want_all rfl) rfl rfl Kp.true (Y.extract rfl rfl rfl) ?_
    refine Jp.alloc 2 11 rfl (want_all rfl) rfl rfl rfl Try.zeroValue35 fun b2 => ⟨Kp.true, ?_⟩
    first | refine Jp.storeAgg 0 rfl (want_all rfl) rfl rfl Try.sizeOf35 rfl rfl rfl rfl rfl rfl (fun k _ _ => noFr0 k) Kp.true ?_ | refine Jp.storeAgg 1 rfl (want_all rfl) rfl rfl Try.sizeOf35 rfl rfl rfl rfl rfl rfl (fun k _ _ => noFr0 k) Kp.true ?_ | refine Jp.storeAgg 2 rfl (want_all rfl) rfl rfl Try.sizeOf35 rfl rfl rfl rfl rfl rfl (fun k _ _ => noFr0 k) Kp.true ?_
    refine Jp.y 12 rfl (want_all rfl) rfl rfl Kp.true (Y.assign rfl rfl) ?_
    refine Jp.done hK16 ?_
    refine Cd.seq fun K17 hK17 => ?_
    refine Cd.seq fun K18 hK18 => ?_
    refine Cd.drawn [(0, _), (1, _), (2, _)] ⟨rfl, rfl, rfl, trivial⟩ [(0, true), (1, true), (2, true), (3, true), (5, true), (4, false), (6, false), (7, false), (8, true), (9, true), (10, true), (11, true), (12, true), (13, true)] follows (by kernel_rfl) (fun hrl => ?_)
    refine Jp.q 53 rfl (want_all rfl) rfl rfl (Y.move rfl rfl) ?_
    refine Jp.q 54 rfl (want_all rfl) rfl rfl (Y.neq rfl rfl rfl) ?_
    refine Jp.q 55 rfl (want_all rfl) rfl rfl (Y.move rfl rfl) ?_
    refine Jp.split 55 rfl (fun g55 => ?_) (fun g55 => ?_)
    · skip
      exact absurd g55 (by simp)
    try simp only [decide_eq_false_iff_not, decide_eq_true_eq, Int.not_lt, Int.not_le, Bool.not_eq_false, Bool.not_eq_true, Bool.not_true, Bool.not_false, Bool.not_eq_true', Bool.not_eq_false', beq_eq_false_iff_ne, ne_eq, beq_iff_eq, bne_iff_ne, bne_eq_false_iff_eq, Classical.not_not] at g55
    refine Jp.q 56 rfl (want_as rfl rfl rfl rfl) rfl rfl (by first | exact Y.loadAggO 1 rfl Try.isAgg35 Try.sizeOf35 rfl rfl rfl | exact Y.loadAggO 0 rfl Try.isAgg35 Try.sizeOf35 rfl rfl rfl) ?_
    refine Jp.q 58 rfl (want_as rfl rfl rfl rfl) rfl rfl (by first | exact Y.loadAggO 1 rfl Try.isAgg35 Try.sizeOf35 rfl rfl rfl | exact Y.loadAggO 0 rfl Try.isAgg35 Try.sizeOf35 rfl rfl rfl) ?_
    refine Jp.call [] [5] (f23_spec g1 hn1) 57 rfl (want_as rfl rfl rfl rfl) rfl rfl (Runs.fn rfl Try.call23 rfl) (by decide) (by decide) rfl hg1 ?_
    rintro v10 ρ10 L10 ⟨rfl, A10, c10, rfl, rfl⟩
    refine ⟨rfl, fun hle10 => ⟨(Kp.st ⟨rfl, rfl, rfl, trivial⟩), ?_⟩⟩
    refine Jp.freeze (i := 5) rfl (OwnS.up _ _ _ _ _ _) fun ρ11 l11 q11 => ?_
    have hr := RdFeed.up _ _ _ l11 hr
    have hb := RdB.up _ _ _ l11 hb
    have hg1 := RdFeed.up _ _ _ l11 hg1
    have hrg : RdFeed ⟨g1.args, g1.input, g1.short, g1.random, g1.clock, ⟨A10, c10, g1.files.xs⟩⟩ ρ11 := { hg1 with files := ⟨q11.rd, hg1.files.2⟩ }
    refine Jp.call [] [6] (f23_spec f hf10) 59 rfl (want_as rfl rfl rfl rfl) rfl rfl (Runs.fn rfl Try.call23 rfl) (by decide) (by decide) rfl hr ?_
    rintro v12 ρ12 L12 ⟨rfl, A12, c12, rfl, rfl⟩
    refine ⟨rfl, fun hle12 => ⟨(Kp.st' ⟨rfl, rfl, rfl, trivial⟩ l11 hrl), ?_⟩⟩
    refine Jp.freeze (i := 6) rfl (OwnS.up _ _ _ _ _ _) fun ρ13 l13 q13 => ?_
    have hr := RdFeed.up _ _ _ l13 hr
    have hb := RdB.up _ _ _ l13 hb
    have hrg := RdFeed.up _ _ _ l13 hrg
    have hrf : RdFeed ⟨f.args, f.input, f.short, f.random, f.clock, ⟨A12, c12, f.files.xs⟩⟩ ρ13 := { hr with files := ⟨q13.rd, hr.files.2⟩ }
    refine Jp.call [] [] (same_spec ⟨g1.args, g1.input, g1.short, g1.random, g1.clock, ⟨A10, c10, g1.files.xs⟩⟩ ⟨f.args, f.input, f.short, f.random, f.clock, ⟨A12, c12, f.files.xs⟩⟩ hc1 hcf) 60 rfl (want_as rfl rfl rfl rfl) rfl rfl (Runs.fn rfl Try.call42 rfl) (by decide) (by decide) rfl ⟨hrg, hrf⟩ ?_
    rintro v14 ρ14 L14 ⟨rfl, hsm, rfl⟩
    refine ⟨rfl, fun hle14 => ⟨(Kp.st' ⟨rfl, rfl, rfl, trivial⟩ (Hp.le_trans l11 l13) hrl), ?_⟩⟩
    obtain rfl := hsm (hp1.trans hF.symm)
    refine Jp.q 61 rfl (want_as rfl rfl rfl rfl) rfl rfl (Y.not rfl rfl) ?_
    refine Jp.q 62 rfl (want_all rfl) rfl rfl (Y.pickF rfl rfl rfl) ?_
    refine Jp.q 63 rfl (want_all rfl) rfl rfl (Y.move rfl rfl) ?_
    refine Jp.split 63 rfl (fun g63 => ?_) (fun g63 => ?_)
    · skip
      exact absurd g63 (by simp)
    try simp only [decide_eq_false_iff_not, decide_eq_true_eq, Int.not_lt, Int.not_le, Bool.not_eq_false, Bool.not_eq_true, Bool.not_true, Bool.not_false, Bool.not_eq_true', Bool.not_eq_false', beq_eq_false_iff_ne, ne_eq, beq_iff_eq, bne_iff_ne, bne_eq_false_iff_eq, Classical.not_not] at g63
    refine Jp.q 64 rfl (want_as rfl rfl rfl rfl) rfl rfl (Y.move rfl rfl) ?_
    refine Jp.q 65 rfl (want_as rfl rfl rfl rfl) rfl rfl (Y.neq rfl rfl rfl) ?_
    refine Jp.q 66 rfl (want_all rfl) rfl rfl (Y.pickF rfl rfl rfl) ?_
    refine Jp.done hK18 ?_
    refine Cd.cond rfl (fun g66 => ?_) (fun g66 => ?_)
    · skip
      exact absurd g66 (by simp)
    try simp only [decide_eq_false_iff_not, decide_eq_true_eq, Int.not_lt, Int.not_le, Bool.not_eq_false, Bool.not_eq_true, Bool.not_true, Bool.not_false, Bool.not_eq_true', Bool.not_eq_false', beq_eq_false_iff_ne, ne_eq, beq_iff_eq, bne_iff_ne, bne_eq_false_iff_eq, Classical.not_not] at g66
    refine Cd.skip hK17 ?_
    refine Cd.seq fun K20 hK20 => ?_
    refine Cd.seq fun K21 hK21 => ?_
    refine Cd.plain [(0, false), (1, false), (2, false), (3, false), (4, false), (5, false), (6, false), (7, false)] rfl rfl ?_
    refine Jp.y 67 rfl (want_all rfl) rfl rfl Kp.true (Y.move rfl rfl) ?_
    refine Jp.y 68 rfl (want_all rfl) rfl rfl Kp.true (Y.lss rfl rfl rfl) ?_
    refine Jp.y 69 rfl (want_all rfl) rfl rfl Kp.true (Y.move rfl rfl) ?_
    refine Jp.split 69 rfl (fun g69 => ?_) (fun g69 => ?_)
    · skip
      refine Jp.skip 70 rfl (want_as rfl rfl rfl rfl) rfl rfl Kp.true ?_
      refine Jp.skip 71 rfl (want_as rfl rfl rfl rfl) rfl rfl Kp.true ?_
      refine Jp.skip 72 rfl (want_as rfl rfl rfl rfl) rfl rfl Kp.true ?_
      refine Jp.skip 73 rfl (want_as rfl rfl rfl rfl) rfl rfl Kp.true ?_
      refine Jp.y 74 rfl (want_all rfl) rfl rfl Kp.true (Y.pickT rfl rfl rfl) ?_
      refine Jp.done hK21 ?_
      refine Cd.condT rfl ?_
      refine Cd.seq fun K22 hK22 => ?_
      refine Cd.plain [(0, false)] rfl rfl ?_
      refine Jp.y 6 rfl (want_all rfl) rfl rfl Kp.true (Y.assign rfl rfl) ?_
      refine Jp.done hK22 ?_
      refine Cd.ret [] rfl (res1 rfl rfl) trivial ⟨rfl, rfl⟩
    try simp only [decide_eq_false_iff_not, decide_eq_true_eq, Int.not_lt, Int.not_le, Bool.not_eq_false, Bool.not_eq_true, Bool.not_true, Bool.not_false, Bool.not_eq_true', Bool.not_eq_false', beq_eq_false_iff_ne, ne_eq, beq_iff_eq, bne_iff_ne, bne_eq_false_iff_eq, Classical.not_not] at g69
    refine Jp.y 70 rfl (want_as rfl rfl rfl rfl) rfl rfl Kp.true (Y.move rfl rfl) ?_
    refine Jp.y 71 rfl (want_as rfl rfl rfl rfl) rfl rfl Kp.true (Y.move rfl rfl) ?_
    refine Jp.y 72 rfl (want_as rfl rfl rfl rfl) rfl rfl Kp.true (Y.lenslice rfl Try.underlying26 rfl) ?_
    refine Jp.y 73 rfl (want_as rfl rfl rfl rfl) rfl rfl Kp.true (Y.geq rfl rfl rfl) ?_
    refine Jp.y 74 rfl (want_all rfl) rfl rfl Kp.true (Y.pickF rfl rfl rfl) ?_
    refine Jp.done hK21 ?_
    refine Cd.cond rfl (fun g74 => ?_) (fun g74 => ?_)
    · skip
      refine Cd.seq fun K23 hK23 => ?_
      refine Cd.plain [(0, false)] rfl rfl ?_
      refine Jp.y 6 rfl (want_all rfl) rfl rfl Kp.true (Y.assign rfl rfl) ?_
      refine Jp.done hK23 ?_
      refine Cd.ret [] rfl (res1 rfl rfl) trivial ⟨rfl, rfl⟩
    try simp only [decide_eq_false_iff_not, decide_eq_true_eq, Int.not_lt, Int.not_le, Bool.not_eq_false, Bool.not_eq_true, Bool.not_true, Bool.not_false, Bool.not_eq_true', Bool.not_eq_false', beq_eq_false_iff_ne, ne_eq, beq_iff_eq, bne_iff_ne, bne_eq_false_iff_eq, Classical.not_not] at g74
    refine Cd.skip hK20 ?_
    refine Cd.seq fun K24 hK24 => ?_
    refine Cd.plain [(0, false), (1, false), (2, false), (3, false), (4, false), (5, false), (6, false), (7, false), (8, false), (9, false)] rfl rfl ?_
    have hc3 : 0 ≤ cut := by omega
    have hc4 : cut < (B.length : Int) := by omega
    obtain ⟨k, rfl⟩ : ∃ k : Nat, cut = k := ⟨cut.toNat, by omega⟩
    have hk : k < B.length := by omega
    have lc : B.length ≤ c3 := hb.2.1.1
    have ht := RdB.takeS (k := k) hb (by omega)
    refine Jp.y 76 rfl (want_all rfl) rfl rfl Kp.true (Y.move rfl rfl) ?_
    refine Jp.y 77 rfl (want_all rfl) rfl rfl Kp.true (Y.move rfl rfl) ?_
    refine Jp.y 78 rfl (want_all rfl) rfl rfl Kp.true (Y.sliceTo (hi := k) rfl rfl rfl Try.underlying26 Try.sizeOf5 (by omega) (by omega)) ?_
    refine Jp.slot 78 rfl (congrArg (fun n => Value.slice A3 n c3) (show k = (B.take k).length by rw [List.length_take]; omega)) ?_
    refine Jp.call [] [] (get_spec ⟨A3, c3, B.take k⟩) 79 rfl (want_all rfl) rfl rfl (Runs.fn rfl Try.call38 rfl) (by decide) (by decide) rfl ht ?_
    rintro v15 ρ15 L15 ⟨g3, rfl, rfl, hg3, hp3, hc3'⟩
    refine ⟨rfl, fun hle15 => ⟨Kp.true, ?_⟩⟩
    rw [show getErr (⟨A3, c3, B.take k⟩ : Sl UInt8).xs = 3 from getErr_none (b3 k hk)]
    refine Jp.y 75 rfl (want_all rfl) rfl rfl Kp.true (Y.move rfl rfl) ?_
    refine Jp.y 80 rfl (want_all rfl) rfl rfl Kp.true (Y.extract rfl rfl rfl) ?_
    refine Jp.y 81 rfl (want_all rfl) rfl rfl Kp.true (Y.extract rfl rfl rfl) ?_
    refine Jp.alloc 7 13 rfl (want_all rfl) rfl rfl rfl Try.zeroValue35 fun b7 => ⟨Kp.true, ?_⟩
    first | refine Jp.storeAgg 0 rfl (want_all rfl) rfl rfl Try.sizeOf35 rfl rfl rfl rfl rfl rfl (fun k _ _ => noFr0 k) Kp.true ?_ | refine Jp.storeAgg 1 rfl (want_all rfl) rfl rfl Try.sizeOf35 rfl rfl rfl rfl rfl rfl (fun k _ _ => noFr0 k) Kp.true ?_ | refine Jp.storeAgg 7 rfl (want_all rfl) rfl rfl Try.sizeOf35 rfl rfl rfl rfl rfl rfl (fun k _ _ => noFr0 k) Kp.true ?_
    refine Jp.y 14 rfl (want_all rfl) rfl rfl Kp.true (Y.assign rfl rfl) ?_
    refine Jp.done hK24 ?_
    refine Cd.seq fun K25 hK25 => ?_
    refine Cd.plain [(0, false), (1, false), (2, false)] rfl rfl ?_
    refine Jp.y 82 rfl (want_all rfl) rfl rfl Kp.true (Y.move rfl rfl) ?_
    refine Jp.y 83 rfl (want_all rfl) rfl rfl Kp.true (Y.eql rfl rfl rfl) ?_
    refine Jp.y 6 rfl (want_all rfl) rfl rfl Kp.true (Y.assign rfl rfl) ?_
    refine Jp.done hK25 ?_
    refine Cd.ret [] rfl (res1 rfl rfl) trivial ⟨rfl, rfl⟩
end Go.Proofs.Ytjjhihlmoecmlaa
