/- Law 4: ShadowApart, ShadowNumbers. -/
import Derived.Test.YtgmhijlcdadaeaaShK
set_option linter.unusedVariables false
set_option linter.unusedSimpArgs false
set_option maxRecDepth 100000
namespace Go.Proofs.Ytgmhijlcdadaeaa
open Go
theorem setM_le {S : ShG} (h : ShOk S.pages) {a : Nat} {bs : Bytes} (ha : a + bs.length ≤ 4294967296) {N : Nat} (hN : (a % 256 + bs.length + 255) / 256 ≤ N) : (setM S a bs).2.pages.length ≤ S.pages.length + N := by
  have := lay_more h ha hN
  unfold setM
  rw [List.take_of_length_le (by omega)]
  split
  · show S.pages.length ≤ _; omega
  · exact this
theorem setM_yes {S : ShG} (h : ShOk S.pages) {a : Nat} {bs : Bytes} (ha : a + bs.length ≤ 4294967296) {N : Nat} (hN : (a % 256 + bs.length + 255) / 256 ≤ N) (hb : S.pages.length + N ≤ S.budget) : setM S a bs = (0, ⟨S.budget, layP S.pages a bs⟩) := by
  have := lay_more h ha hN
  unfold setM
  rw [List.take_of_length_le (by omega), if_neg (by omega)]
theorem setM_ok {S : ShG} (h : ShOk S.pages) {a : Nat} (bs : Bytes) (ha : a ≤ 4294967296) : ShOk (setM S a bs).2.pages := by
  unfold setM
  split
  · exact h
  · exact lay_ok h (by rw [List.length_take]; omega)
theorem shOk_nil : ShOk [] := ⟨List.Pairwise.nil, fun x h => (List.not_mem_nil h).elim⟩
theorem u8_eq {x y : UInt8} : (((x.toNat : Int)) == (y.toNat : Int)) = decide (x = y) := by
  by_cases h : x = y
  · simp [h]
  · rw [decide_eq_false h, beq_eq_false_iff_ne]
    intro e
    exact h (UInt8.toNat_inj.1 (by omega))
theorem shadowApart_spec (sa : Sl UInt8) (at' : Nat) (sb : Sl UInt8) (n : Int) (other : Nat) (hat : at' < 4294967296) (hn1 : -9223372036854775808 ≤ n) (hn2 : n ≤ 9223372036854775807) (ho : other < 4294967296) : Spec Try.prog 8 #[sa.v, .int .u32 at', sb.v, .int .i64 n, .int .u32 other] (fun h => RdB sa h ∧ RdB sb h) [] (fun ρ ρ' v L => v = .bool true ∧ L = []) := by
  obtain ⟨A, c, xa⟩ := sa
  obtain ⟨B, d, xb⟩ := sb
  dsimp only [Sl.v]
  refine Spec.of 94 Try.func8 rfl Try.ntmps8 [(0, _), (1, _), (2, _), (3, _), (4, _)] rfl rfl ?_
  intro cx ρ hr h0
  obtain ⟨hra, hrb⟩ := hr
  have lxa : xa.length ≤ 281474976710656 := hra.2.1.2
  have lxb : xb.length ≤ 281474976710656 := hrb.2.1.2
  refine Cd.seq fun K1 hK1 => ?_
  refine Cd.plain [(0, false)] rfl rfl ?_
  refine Jp.y 10 rfl (want_all rfl) rfl rfl Kp.true (Y.assign rfl rfl) ?_
  refine Jp.done hK1 ?_
  refine Cd.seq fun K2 hK2 => ?_
  refine Cd.seq fun K3 hK3 => ?_
  refine Cd.plain [(0, false), (1, false)] rfl rfl ?_
  refine Jp.call [] [] awake4_spec 16 rfl (want_all rfl) rfl rfl (Runs.fn rfl Try.call25 rfl) (by decide) (by decide) rfl trivial ?_
  rintro v1 ρ1 L1 ⟨rfl, rfl⟩
  refine ⟨rfl, fun hle1 => ⟨Kp.true, ?_⟩⟩
  have hra := RdB.up _ _ _ hle1 hra
  have hrb := RdB.up _ _ _ hle1 hrb
  refine Jp.y 17 rfl (want_all rfl) rfl rfl Kp.true (Y.not rfl rfl) ?_
  refine Jp.done hK3 ?_
  refine Cd.cond rfl (fun g17 => ?_) (fun g17 => ?_)
  · skip
    exact absurd g17 (by simp)
  try simp only [decide_eq_false_iff_not, decide_eq_true_eq, Int.not_lt, Int.not_le, Bool.not_eq_false, Bool.not_eq_true, Bool.not_true, Bool.not_false, Bool.not_eq_true', Bool.not_eq_false', beq_eq_false_iff_ne, ne_eq, beq_iff_eq, bne_iff_ne, bne_eq_false_iff_eq, Classical.not_not] at g17
  refine Cd.skip hK2 ?_
  refine Cd.seq fun K4 hK4 => ?_
  refine Cd.seq fun K5 hK5 => ?_
  refine Cd.plain [(0, false), (1, false), (2, false), (3, false), (4, false), (5, false), (6, false), (7, false), (8, false), (9, false), (10, false), (11, false), (12, false), (13, false), (14, false), (15, false), (16, false), (17, false), (18, false), (19, false)] rfl rfl ?_
  refine Jp.y 18 rfl (want_all rfl) rfl rfl Kp.true (Y.move rfl rfl) ?_
  refine Jp.y 19 rfl (want_all rfl) rfl rfl Kp.true (Y.lenslice rfl Try.underlying38 rfl) ?_
  refine Jp.y 20 rfl (want_all rfl) rfl rfl Kp.true (Y.gtr rfl rfl rfl) ?_
  refine Jp.y 21 rfl (want_all rfl) rfl rfl Kp.true (Y.move rfl rfl) ?_
  refine Jp.split 21 rfl (fun g21 => ?_) (fun g21 => ?_)
  · skip
    refine Jp.skip 22 rfl (want_as rfl rfl rfl rfl) rfl rfl Kp.true ?_
    refine Jp.skip 23 rfl (want_as rfl rfl rfl rfl) rfl rfl Kp.true ?_
    refine Jp.skip 24 rfl (want_as rfl rfl rfl rfl) rfl rfl Kp.true ?_
    refine Jp.y 25 rfl (want_all rfl) rfl rfl Kp.true (Y.pickT rfl rfl rfl) ?_
    refine Jp.y 26 rfl (want_all rfl) rfl rfl Kp.true (Y.move rfl rfl) ?_
    refine Jp.skip 27 rfl (want_as rfl rfl rfl rfl) rfl rfl Kp.true ?_
    refine Jp.skip 28 rfl (want_as rfl rfl rfl rfl) rfl rfl Kp.true ?_
    refine Jp.y 29 rfl (want_all rfl) rfl rfl Kp.true (Y.pickT rfl rfl rfl) ?_
    refine Jp.y 30 rfl (want_all rfl) rfl rfl Kp.true (Y.move rfl rfl) ?_
    refine Jp.skip 31 rfl (want_as rfl rfl rfl rfl) rfl rfl Kp.true ?_
    refine Jp.skip 32 rfl (want_as rfl rfl rfl rfl) rfl rfl Kp.true ?_
    refine Jp.y 33 rfl (want_all rfl) rfl rfl Kp.true (Y.pickT rfl rfl rfl) ?_
    refine Jp.y 34 rfl (want_all rfl) rfl rfl Kp.true (Y.move rfl rfl) ?_
    refine Jp.skip 35 rfl (want_as rfl rfl rfl rfl) rfl rfl Kp.true ?_
    refine Jp.skip 36 rfl (want_as rfl rfl rfl rfl) rfl rfl Kp.true ?_
    refine Jp.y 37 rfl (want_all rfl) rfl rfl Kp.true (Y.pickT rfl rfl rfl) ?_
    refine Jp.done hK5 ?_
    refine Cd.condT rfl ?_
    refine Cd.seq fun K6 hK6 => ?_
    refine Cd.plain [(0, false)] rfl rfl ?_
    refine Jp.y 10 rfl (want_all rfl) rfl rfl Kp.true (Y.assign rfl rfl) ?_
    refine Jp.done hK6 ?_
    refine Cd.ret [] rfl (res1 rfl rfl) trivial ⟨rfl, rfl⟩
  try simp only [decide_eq_false_iff_not, decide_eq_true_eq, Int.not_lt, Int.not_le, Bool.not_eq_false, Bool.not_eq_true, Bool.not_true, Bool.not_false, Bool.not_eq_true', Bool.not_eq_false', beq_eq_false_iff_ne, ne_eq, beq_iff_eq, bne_iff_ne, bne_eq_false_iff_eq, Classical.not_not] at g21
  refine Jp.y 22 rfl (want_as rfl rfl rfl rfl) rfl rfl Kp.true (Y.move rfl rfl) ?_
  refine Jp.y 23 rfl (want_as rfl rfl rfl rfl) rfl rfl Kp.true (Y.lenslice rfl Try.underlying38 rfl) ?_
  refine Jp.y 24 rfl (want_as rfl rfl rfl rfl) rfl rfl Kp.true (Y.gtr rfl rfl rfl) ?_
  refine Jp.y 25 rfl (want_all rfl) rfl rfl Kp.true (Y.pickF rfl rfl rfl) ?_
  refine Jp.y 26 rfl (want_all rfl) rfl rfl Kp.true (Y.move rfl rfl) ?_
  refine Jp.split 26 rfl (fun g26 => ?_) (fun g26 => ?_)
  · skip
    refine Jp.skip 27 rfl (want_as rfl rfl rfl rfl) rfl rfl Kp.true ?_
    refine Jp.skip 28 rfl (want_as rfl rfl rfl rfl) rfl rfl Kp.true ?_
    refine Jp.y 29 rfl (want_all rfl) rfl rfl Kp.true (Y.pickT rfl rfl rfl) ?_
    refine Jp.y 30 rfl (want_all rfl) rfl rfl Kp.true (Y.move rfl rfl) ?_
    refine Jp.skip 31 rfl (want_as rfl rfl rfl rfl) rfl rfl Kp.true ?_
    refine Jp.skip 32 rfl (want_as rfl rfl rfl rfl) rfl rfl Kp.true ?_
    refine Jp.y 33 rfl (want_all rfl) rfl rfl Kp.true (Y.pickT rfl rfl rfl) ?_
    refine Jp.y 34 rfl (want_all rfl) rfl rfl Kp.true (Y.move rfl rfl) ?_
    refine Jp.skip 35 rfl (want_as rfl rfl rfl rfl) rfl rfl Kp.true ?_
    refine Jp.skip 36 rfl (want_as rfl rfl rfl rfl) rfl rfl Kp.true ?_
    refine Jp.y 37 rfl (want_all rfl) rfl rfl Kp.true (Y.pickT rfl rfl rfl) ?_
    refine Jp.done hK5 ?_
    refine Cd.condT rfl ?_
    refine Cd.seq fun K7 hK7 => ?_
    refine Cd.plain [(0, false)] rfl rfl ?_
    refine Jp.y 10 rfl (want_all rfl) rfl rfl Kp.true (Y.assign rfl rfl) ?_
    refine Jp.done hK7 ?_
    refine Cd.ret [] rfl (res1 rfl rfl) trivial ⟨rfl, rfl⟩
  try simp only [decide_eq_false_iff_not, decide_eq_true_eq, Int.not_lt, Int.not_le, Bool.not_eq_false, Bool.not_eq_true, Bool.not_true, Bool.not_false, Bool.not_eq_true', Bool.not_eq_false', beq_eq_false_iff_ne, ne_eq, beq_iff_eq, bne_iff_ne, bne_eq_false_iff_eq, Classical.not_not] at g26
  refine Jp.y 27 rfl (want_as rfl rfl rfl rfl) rfl rfl Kp.true (Y.move rfl rfl) ?_
  refine Jp.y 28 rfl (want_as rfl rfl rfl rfl) rfl rfl Kp.true (Y.lss rfl rfl rfl) ?_
  refine Jp.y 29 rfl (want_all rfl) rfl rfl Kp.true (Y.pickF rfl rfl rfl) ?_
  refine Jp.y 30 rfl (want_all rfl) rfl rfl Kp.true (Y.move rfl rfl) ?_
  refine Jp.split 30 rfl (fun g30 => ?_) (fun g30 => ?_)
  · skip
    refine Jp.skip 31 rfl (want_as rfl rfl rfl rfl) rfl rfl Kp.true ?_
    refine Jp.skip 32 rfl (want_as rfl rfl rfl rfl) rfl rfl Kp.true ?_
    refine Jp.y 33 rfl (want_all rfl) rfl rfl Kp.true (Y.pickT rfl rfl rfl) ?_
    refine Jp.y 34 rfl (want_all rfl) rfl rfl Kp.true (Y.move rfl rfl) ?_
    refine Jp.skip 35 rfl (want_as rfl rfl rfl rfl) rfl rfl Kp.true ?_
    refine Jp.skip 36 rfl (want_as rfl rfl rfl rfl) rfl rfl Kp.true ?_
    refine Jp.y 37 rfl (want_all rfl) rfl rfl Kp.true (Y.pickT rfl rfl rfl) ?_
    refine Jp.done hK5 ?_
    refine Cd.condT rfl ?_
    refine Cd.seq fun K8 hK8 => ?_
    refine Cd.plain [(0, false)] rfl rfl ?_
    refine Jp.y 10 rfl (want_all rfl) rfl rfl Kp.true (Y.assign rfl rfl) ?_
    refine Jp.done hK8 ?_
    refine Cd.ret [] rfl (res1 rfl rfl) trivial ⟨rfl, rfl⟩
  try simp only [decide_eq_false_iff_not, decide_eq_true_eq, Int.not_lt, Int.not_le, Bool.not_eq_false, Bool.not_eq_true, Bool.not_true, Bool.not_false, Bool.not_eq_true', Bool.not_eq_false', beq_eq_false_iff_ne, ne_eq, beq_iff_eq, bne_iff_ne, bne_eq_false_iff_eq, Classical.not_not] at g30
  refine Jp.y 31 rfl (want_as rfl rfl rfl rfl) rfl rfl Kp.true (Y.move rfl rfl) ?_
  refine Jp.y 32 rfl (want_as rfl rfl rfl rfl) rfl rfl Kp.true (Y.gtr rfl rfl rfl) ?_
  refine Jp.y 33 rfl (want_all rfl) rfl rfl Kp.true (Y.pickF rfl rfl rfl) ?_
  refine Jp.y 34 rfl (want_all rfl) rfl rfl Kp.true (Y.move rfl rfl) ?_
  refine Jp.split 34 rfl (fun g34 => ?_) (fun g34 => ?_)
  · skip
    refine Jp.skip 35 rfl (want_as rfl rfl rfl rfl) rfl rfl Kp.true ?_
    refine Jp.skip 36 rfl (want_as rfl rfl rfl rfl) rfl rfl Kp.true ?_
    refine Jp.y 37 rfl (want_all rfl) rfl rfl Kp.true (Y.pickT rfl rfl rfl) ?_
    refine Jp.done hK5 ?_
    refine Cd.condT rfl ?_
    refine Cd.seq fun K9 hK9 => ?_
    refine Cd.plain [(0, false)] rfl rfl ?_
    refine Jp.y 10 rfl (want_all rfl) rfl rfl Kp.true (Y.assign rfl rfl) ?_
    refine Jp.done hK9 ?_
    refine Cd.ret [] rfl (res1 rfl rfl) trivial ⟨rfl, rfl⟩
  try simp only [decide_eq_false_iff_not, decide_eq_true_eq, Int.not_lt, Int.not_le, Bool.not_eq_false, Bool.not_eq_true, Bool.not_true, Bool.not_false, Bool.not_eq_true', Bool.not_eq_false', beq_eq_false_iff_ne, ne_eq, beq_iff_eq, bne_iff_ne, bne_eq_false_iff_eq, Classical.not_not] at g34
  refine Jp.y 35 rfl (want_as rfl rfl rfl rfl) rfl rfl Kp.true (Y.move rfl rfl) ?_
  refine Jp.y 36 rfl (want_as rfl rfl rfl rfl) rfl rfl Kp.true (Y.gtr rfl rfl rfl) ?_
  refine Jp.y 37 rfl (want_all rfl) rfl rfl Kp.true (Y.pickF rfl rfl rfl) ?_
  refine Jp.done hK5 ?_
  refine Cd.cond rfl (fun g37 => ?_) (fun g37 => ?_)
  · skip
    refine Cd.seq fun K10 hK10 => ?_
    refine Cd.plain [(0, false)] rfl rfl ?_
    refine Jp.y 10 rfl (want_all rfl) rfl rfl Kp.true (Y.assign rfl rfl) ?_
    refine Jp.done hK10 ?_
    refine Cd.ret [] rfl (res1 rfl rfl) trivial ⟨rfl, rfl⟩
  try simp only [decide_eq_false_iff_not, decide_eq_true_eq, Int.not_lt, Int.not_le, Bool.not_eq_false, Bool.not_eq_true, Bool.not_true, Bool.not_false, Bool.not_eq_true', Bool.not_eq_false', beq_eq_false_iff_ne, ne_eq, beq_iff_eq, bne_iff_ne, bne_eq_false_iff_eq, Classical.not_not] at g37
  refine Cd.skip hK4 ?_
  refine Cd.seq fun K11 hK11 => ?_
  refine Cd.plain [(0, false), (1, false), (2, false), (3, false), (4, false), (5, false)] rfl rfl ?_
  obtain ⟨n, rfl⟩ := Int.eq_ofNat_of_zero_le (show 0 ≤ n by omega)
  have ha1 : at' + xa.length ≤ 4294967296 := by omega
  have h1 := setM_le (S := ⟨50, []⟩) shOk_nil ha1 (N := 3) (by omega)
  have h2 := setM_ok (S := ⟨50, []⟩) shOk_nil xa (show at' ≤ 4294967296 by omega)
  have h3 := setM_budget ⟨50, []⟩ at' xa
  refine Jp.call [] [1] (shNew_yes 50 (by omega)) 39 rfl (want_all rfl) rfl rfl (Runs.fn rfl Try.call26 rfl) (by decide) (by decide) rfl trivial ?_
  rintro v2 ρ2 L2 ⟨rfl, b, rfl, rfl⟩
  refine ⟨rfl, fun hle2 => ⟨Kp.true, ?_⟩⟩
  refine Jp.y 38 rfl (want_all rfl) rfl rfl Kp.true (Y.move rfl rfl) ?_
  refine Jp.y 40 rfl (want_all rfl) rfl rfl Kp.true (Y.extract rfl rfl rfl) ?_
  refine Jp.y 41 rfl (want_all rfl) rfl rfl Kp.true (Y.extract rfl rfl rfl) ?_
  refine Jp.y 11 rfl (want_all rfl) rfl rfl Kp.true (Y.assign rfl rfl) ?_
  refine Jp.y 12 rfl (want_all rfl) rfl rfl Kp.true (Y.assign rfl rfl) ?_
  refine Jp.done hK11 ?_
  refine Cd.seq fun K12 hK12 => ?_
  refine Cd.plain [(0, false), (1, false), (2, false), (3, false)] rfl rfl ?_
  refine Jp.y 42 rfl (want_all rfl) rfl rfl Kp.true (Y.move rfl rfl) ?_
  refine Jp.y 43 rfl (want_all rfl) rfl rfl Kp.true (Y.move rfl rfl) ?_
  refine Jp.y 44 rfl (want_all rfl) rfl rfl Kp.true (Y.move rfl rfl) ?_
  refine Jp.call [1] [1] (shSet_spec b ⟨50, []⟩ at' ⟨A, c, xa⟩ hat (by show xa.length ≤ _; omega)) 45 rfl (want_all rfl) rfl rfl (Runs.fn rfl Try.call30 rfl) (by decide) (by decide) rfl hra ?_
  rintro v3 ρ3 L3 ⟨rfl, rfl, rfl⟩
  refine ⟨rfl, fun hle3 => ⟨Kp.true, ?_⟩⟩
  obtain ⟨S1, hS1⟩ : ∃ S, (setM ⟨50, []⟩ at' xa).2 = S := ⟨_, rfl⟩
  dsimp only
  rw [hS1] at h1 h2 h3 ⊢
  dsimp only at h1 h3
  rw [List.length_nil] at h1
  have hy := setM_yes (S := S1) (a := at' + n) (bs := xb) h2 (by omega) (N := 3) (by omega) (by omega)
  have hlab := labL_lay (l := S1.pages) (a := at' + n) (bs := xb) h2 (by omega)
  refine Jp.done hK12 ?_
  refine Cd.seq fun K13 hK13 => ?_
  refine Cd.plain [(0, false), (1, false), (2, false), (3, false)] rfl rfl ?_
  refine Jp.y 46 rfl (want_all rfl) rfl rfl Kp.true (Y.move rfl rfl) ?_
  refine Jp.y 47 rfl (want_all rfl) rfl rfl Kp.true (Y.move rfl rfl) ?_
  refine Jp.call [1] [1] (shAt_spec b S1 other ho) 48 rfl (want_all rfl) rfl rfl (Runs.fn rfl Try.call29 rfl) (by decide) (by decide) rfl trivial ?_
  rintro v4 ρ4 L4 ⟨rfl, rfl, rfl⟩
  refine ⟨rfl, fun hle4 => ⟨Kp.true, ?_⟩⟩
  refine Jp.y 13 rfl (want_all rfl) rfl rfl Kp.true (Y.assign rfl rfl) ?_
  refine Jp.done hK13 ?_
  refine Cd.seq fun K14 hK14 => ?_
  refine Cd.plain [(0, false), (1, false), (2, false), (3, false), (4, false)] rfl rfl ?_
  refine Jp.y 49 rfl (want_all rfl) rfl rfl Kp.true (Y.move rfl rfl) ?_
  refine Jp.y 50 rfl (want_all rfl) rfl rfl Kp.true (Y.move rfl rfl) ?_
  refine Jp.y 51 rfl (want_all rfl) rfl rfl Kp.true (Y.conv_ rfl rfl Try.underlying3 Try.underlying25 (by first | exact wrap_u32 (by omega) (by omega) | rfl)) ?_
  refine Jp.y 52 rfl (want_all rfl) rfl rfl Kp.true (Y.add_ rfl rfl rfl (by first | exact wrap_u32 (by omega) (by omega) | rfl)) ?_
  refine Jp.slot 52 rfl (show _ = Value.int .u32 ((at' + n : Nat) : Int) from congrArg (Value.int .u32) (by omega)) ?_
  refine Jp.y 14 rfl (want_all rfl) rfl rfl Kp.true (Y.assign rfl rfl) ?_
  refine Jp.done hK14 ?_
  refine Cd.seq fun K15 hK15 => ?_
  refine Cd.seq fun K16 hK16 => ?_
  refine Cd.plain [(0, false), (1, false), (2, false), (3, false), (4, false)] rfl rfl ?_
  refine Jp.y 53 rfl (want_all rfl) rfl rfl Kp.true (Y.move rfl rfl) ?_
  refine Jp.y 54 rfl (want_all rfl) rfl rfl Kp.true (Y.move rfl rfl) ?_
  refine Jp.y 55 rfl (want_all rfl) rfl rfl Kp.true (Y.move rfl rfl) ?_
  have hs := shSet_spec b S1 (at' + n) ⟨B, d, xb⟩ (by omega) (by show xb.length ≤ _; omega)
  dsimp only at hs
  rw [hy] at hs
  refine Jp.call [1] [1] hs 56 rfl (want_all rfl) rfl rfl (Runs.fn rfl Try.call30 rfl) (by decide) (by decide) rfl hrb ?_
  rintro v5 ρ5 L5 ⟨rfl, rfl, rfl⟩
  refine ⟨rfl, fun hle5 => ⟨Kp.true, ?_⟩⟩
  obtain ⟨S2, hS2⟩ : ∃ S : ShG, S = ⟨S1.budget, layP S1.pages (at' + n) xb⟩ := ⟨_, rfl⟩
  have hS2p : S2.pages = layP S1.pages (at' + n) xb := by rw [hS2]
  dsimp only
  rw [← hS2]
  rw [← hS2p] at hlab
  obtain ⟨p, hp⟩ : ∃ p, at' + n = p := ⟨_, rfl⟩
  rw [hp] at hlab ⊢
  refine Jp.y 57 rfl (want_all rfl) rfl rfl Kp.true (Y.neq rfl rfl rfl) ?_
  refine Jp.slot 57 rfl (show _ = Value.bool false from rfl) ?_
  refine Jp.done hK16 ?_
  refine Cd.condF rfl ?_
  refine Cd.skip hK15 ?_
  refine Cd.seq fun K17 hK17 => ?_
  refine Cd.seq fun K18 hK18 => ?_
  refine Cd.plain [(0, false)] rfl rfl ?_
  refine Jp.y 15 rfl (want_all rfl) rfl rfl Kp.true (Y.assign rfl rfl) ?_
  refine Jp.done hK18 ?_
  refine Cd.block ?_
  refine Cd.loopK (G := Nat) (fun i => i ≤ xb.length) (fun i => xb.length - i) (fun _ => _) (fun i => [(15, .int .i64 (i : Int))]) [(2, _), (4, _), (11, _), (13, _), (14, _)] (fun i => []) [(1, _)] 0 (Nat.zero_le _) rfl ⟨rfl, trivial⟩ ⟨rfl, rfl, rfl, rfl, rfl, trivial⟩ trivial ⟨rfl, trivial⟩ (fun g KLa hok hLa => ?_)
  obtain ⟨i, hi⟩ : ∃ i, i = g := ⟨_, rfl⟩
  rw [← hi] at hok ⊢
  refine Cd.seq fun K19 hK19 => ?_
  refine Cd.seq fun K20 hK20 => ?_
  refine Cd.plain [(0, false), (1, false), (2, false), (3, false)] rfl rfl ?_
  refine Jp.y 58 rfl (want_all rfl) rfl rfl Kp.true (Y.move rfl rfl) ?_
  refine Jp.y 59 rfl (want_all rfl) rfl rfl Kp.true (Y.move rfl rfl) ?_
  refine Jp.y 60 rfl (want_all rfl) rfl rfl Kp.true (Y.lenslice rfl Try.underlying38 rfl) ?_
  refine Jp.y 61 rfl (want_all rfl) rfl rfl Kp.true (Y.lss rfl rfl rfl) ?_
  refine Jp.done hK20 ?_
  refine Cd.cond rfl (fun ga => ?_) (fun ga => ?_)
  · have hib : i < xb.length := by simpa using ga
    have hv : xb[i]? = some xb[i] := List.getElem?_eq_getElem hib
    obtain ⟨v, hve⟩ : ∃ v, v = xb[i] := ⟨_, rfl⟩
    rw [← hve] at hv
    obtain ⟨ad, hA, hc⟩ := RdB.cell hrb hv
    have hA : B = some ad := hA
    subst hA
    refine Cd.skip hK19 ?_
    refine Cd.seq fun K21 hK21 => ?_
    refine Cd.block ?_
    refine Cd.seq fun K22 hK22 => ?_
    refine Cd.drawn [] trivial [(0, true), (1, true), (2, true), (3, true), (4, true), (6, true), (7, true), (8, true), (9, true), (5, false), (10, true)] follows (by kernel_rfl) (fun hrl => ?_)
    refine Jp.q 64 rfl (want_all rfl) rfl rfl (Y.move rfl rfl) ?_
    refine Jp.q 65 rfl (want_all rfl) rfl rfl (Y.move rfl rfl) ?_
    refine Jp.q 66 rfl (want_all rfl) rfl rfl (Y.move rfl rfl) ?_
    refine Jp.q 67 rfl (want_all rfl) rfl rfl (Y.conv_ rfl rfl Try.underlying3 Try.underlying25 (by first | exact wrap_u32 (by omega) (by omega) | rfl)) ?_
    refine Jp.q 68 rfl (want_all rfl) rfl rfl (Y.add_ rfl rfl rfl (by first | exact wrap_u32 (by omega) (by omega) | rfl)) ?_
    refine Jp.q 70 rfl (want_all rfl) rfl rfl (Y.move rfl rfl) ?_
    refine Jp.q 71 rfl (want_all rfl) rfl rfl (Y.move rfl rfl) ?_
    refine Jp.q 72 rfl (want_all rfl) rfl rfl (Y.indexAddr (q := i) rfl rfl rfl Try.underlying38 Try.sizeOf5 (by omega) (by omega) (by omega)) ?_
    refine Jp.q 73 rfl (want_all rfl) rfl rfl (Y.loadR rfl Try.isAgg5 rfl hc) ?_
    refine Jp.slot 68 rfl (show _ = Value.int .u32 ((p + i : Nat) : Int) from congrArg (Value.int .u32) (by omega)) ?_
    refine Jp.call [1] [1] (shAt_spec b S2 (p + i) (by omega)) 69 rfl (want_all rfl) rfl rfl (Runs.fn rfl Try.call29 rfl) (by decide) (by decide) rfl trivial ?_
    rintro v6 ρ6 L6 ⟨rfl, rfl, rfl⟩
    refine ⟨rfl, fun hle6 => ⟨(Kp.st trivial), ?_⟩⟩
    have hl : labL S2.pages (p + i) = v := by rw [hlab, if_pos (by omega), show p + i - p = i by omega, List.getD_eq_getElem?_getD, hv]; rfl
    rw [hl]
    refine Jp.q 74 rfl (want_all rfl) rfl rfl (Y.neq rfl rfl rfl) ?_
    refine Jp.slot 74 rfl (show _ = Value.bool false from congrArg Value.bool (by simp)) ?_
    refine Jp.done hK22 ?_
    refine Cd.condF rfl ?_
    refine Cd.over rfl hK21 ?_
    refine Cd.plain [(0, false), (1, false), (2, false)] rfl rfl ?_
    refine Jp.y 62 rfl (want_all rfl) rfl rfl Kp.true (Y.move rfl rfl) ?_
    refine Jp.y 63 rfl (want_all rfl) rfl rfl Kp.true (Y.add_ rfl rfl rfl (by first | exact wrap_i64 (by omega) (by omega) | rfl)) ?_
    refine Jp.y 15 rfl (want_all rfl) rfl rfl Kp.true (Y.assign rfl rfl) ?_
    rw [show (i : Int) + 1 = ((i + 1 : Nat) : Int) by omega]
    refine Jp.again hLa (i + 1) (by omega) (by omega) rfl ⟨rfl, rfl, rfl, rfl, rfl, rfl, trivial⟩ ⟨rfl, trivial⟩
  · skip
    refine Cd.exit rfl hK17 ?_
    refine Cd.seq fun K24 hK24 => ?_
    refine Cd.plain [(0, false), (1, false), (2, false), (3, false), (4, false), (5, false), (6, false), (7, false), (8, false), (9, false), (10, false), (11, false), (12, false), (13, false), (14, false), (15, false), (16, false), (17, false), (18, false), (19, false)] rfl rfl ?_
    refine Jp.y 75 rfl (want_all rfl) rfl rfl Kp.true (Y.move rfl rfl) ?_
    refine Jp.y 76 rfl (want_all rfl) rfl rfl Kp.true (Y.move rfl rfl) ?_
    have hl := hlab other
    by_cases hin : p ≤ other ∧ other < p + xb.length
    · skip
      refine Jp.y 77 rfl (want_all rfl) rfl rfl Kp.true (Y.geq rfl rfl rfl) ?_
      refine Jp.slot 77 rfl (show _ = Value.bool true from congrArg Value.bool (decide_eq_true (by omega))) ?_
      refine Jp.y 78 rfl (want_all rfl) rfl rfl Kp.true (Y.move rfl rfl) ?_
      refine Jp.slot 78 rfl (show _ = Value.bool true from rfl) ?_
      refine Jp.y 79 rfl (want_as rfl rfl rfl rfl) rfl rfl Kp.true (Y.move rfl rfl) ?_
      refine Jp.y 80 rfl (want_as rfl rfl rfl rfl) rfl rfl Kp.true (Y.move rfl rfl) ?_
      refine Jp.y 81 rfl (want_as rfl rfl rfl rfl) rfl rfl Kp.true (Y.sub_ rfl rfl rfl (by first | exact wrap_u32 (by omega) (by omega) | rfl)) ?_
      refine Jp.y 82 rfl (want_as rfl rfl rfl rfl) rfl rfl Kp.true (Y.move rfl rfl) ?_
      refine Jp.y 83 rfl (want_as rfl rfl rfl rfl) rfl rfl Kp.true (Y.lenslice rfl Try.underlying38 rfl) ?_
      refine Jp.y 84 rfl (want_as rfl rfl rfl rfl) rfl rfl Kp.true (Y.conv_ rfl rfl Try.underlying3 Try.underlying25 (by first | exact wrap_u32 (by omega) (by omega) | rfl)) ?_
      refine Jp.y 85 rfl (want_as rfl rfl rfl rfl) rfl rfl Kp.true (Y.lss rfl rfl rfl) ?_
      refine Jp.slot 85 rfl (show _ = Value.bool true from congrArg Value.bool (decide_eq_true (by omega))) ?_
      refine Jp.y 86 rfl (want_all rfl) rfl rfl Kp.true (Y.pickT rfl rfl rfl) ?_
      refine Jp.slot 86 rfl (show _ = Value.bool true from rfl) ?_
      refine Jp.y 87 rfl (want_all rfl) rfl rfl Kp.true (Y.move rfl rfl) ?_
      refine Jp.slot 87 rfl (show _ = Value.bool true from rfl) ?_
      refine Jp.skip 88 rfl (want_as rfl rfl rfl rfl) rfl rfl Kp.true ?_
      refine Jp.skip 89 rfl (want_as rfl rfl rfl rfl) rfl rfl Kp.true ?_
      refine Jp.skip 90 rfl (want_as rfl rfl rfl rfl) rfl rfl Kp.true ?_
      refine Jp.skip 91 rfl (want_as rfl rfl rfl rfl) rfl rfl Kp.true ?_
      refine Jp.skip 92 rfl (want_as rfl rfl rfl rfl) rfl rfl Kp.true ?_
      refine Jp.y 93 rfl (want_all rfl) rfl rfl Kp.true (Y.pickT rfl rfl rfl) ?_
      refine Jp.y 10 rfl (want_all rfl) rfl rfl Kp.true (Y.assign rfl rfl) ?_
      refine Jp.done hK24 ?_
      refine Cd.ret [] rfl (res1 rfl rfl) trivial ⟨rfl, rfl⟩
    · rw [if_neg hin] at hl
      by_cases hp1 : p ≤ other
      · skip
        refine Jp.y 77 rfl (want_all rfl) rfl rfl Kp.true (Y.geq rfl rfl rfl) ?_
        refine Jp.slot 77 rfl (show _ = Value.bool true from congrArg Value.bool (decide_eq_true (by omega))) ?_
        refine Jp.y 78 rfl (want_all rfl) rfl rfl Kp.true (Y.move rfl rfl) ?_
        refine Jp.slot 78 rfl (show _ = Value.bool true from rfl) ?_
        refine Jp.y 79 rfl (want_as rfl rfl rfl rfl) rfl rfl Kp.true (Y.move rfl rfl) ?_
        refine Jp.y 80 rfl (want_as rfl rfl rfl rfl) rfl rfl Kp.true (Y.move rfl rfl) ?_
        refine Jp.y 81 rfl (want_as rfl rfl rfl rfl) rfl rfl Kp.true (Y.sub_ rfl rfl rfl (by first | exact wrap_u32 (by omega) (by omega) | rfl)) ?_
        refine Jp.y 82 rfl (want_as rfl rfl rfl rfl) rfl rfl Kp.true (Y.move rfl rfl) ?_
        refine Jp.y 83 rfl (want_as rfl rfl rfl rfl) rfl rfl Kp.true (Y.lenslice rfl Try.underlying38 rfl) ?_
        refine Jp.y 84 rfl (want_as rfl rfl rfl rfl) rfl rfl Kp.true (Y.conv_ rfl rfl Try.underlying3 Try.underlying25 (by first | exact wrap_u32 (by omega) (by omega) | rfl)) ?_
        refine Jp.y 85 rfl (want_as rfl rfl rfl rfl) rfl rfl Kp.true (Y.lss rfl rfl rfl) ?_
        refine Jp.slot 85 rfl (show _ = Value.bool false from congrArg Value.bool (decide_eq_false (by omega))) ?_
        refine Jp.y 86 rfl (want_all rfl) rfl rfl Kp.true (Y.pickT rfl rfl rfl) ?_
        refine Jp.slot 86 rfl (show _ = Value.bool false from rfl) ?_
        refine Jp.y 87 rfl (want_all rfl) rfl rfl Kp.true (Y.move rfl rfl) ?_
        refine Jp.slot 87 rfl (show _ = Value.bool false from rfl) ?_
        refine Jp.y 88 rfl (want_as rfl rfl rfl rfl) rfl rfl Kp.true (Y.move rfl rfl) ?_
        refine Jp.y 89 rfl (want_as rfl rfl rfl rfl) rfl rfl Kp.true (Y.move rfl rfl) ?_
        refine Jp.call [1] [1] (shAt_spec b S2 other ho) 90 rfl (want_as rfl rfl rfl rfl) rfl rfl (Runs.fn rfl Try.call29 rfl) (by decide) (by decide) rfl trivial ?_
        rintro v7 ρ7 L7 ⟨rfl, rfl, rfl⟩
        refine ⟨rfl, fun hle7 => ⟨Kp.true, ?_⟩⟩
        rw [hl]
        refine Jp.y 91 rfl (want_as rfl rfl rfl rfl) rfl rfl Kp.true (Y.move rfl rfl) ?_
        refine Jp.y 92 rfl (want_as rfl rfl rfl rfl) rfl rfl Kp.true (Y.eql rfl rfl rfl) ?_
        refine Jp.slot 92 rfl (show _ = Value.bool true from congrArg Value.bool (by simp)) ?_
        refine Jp.y 93 rfl (want_all rfl) rfl rfl Kp.true (Y.pickF rfl rfl rfl) ?_
        refine Jp.y 10 rfl (want_all rfl) rfl rfl Kp.true (Y.assign rfl rfl) ?_
        refine Jp.done hK24 ?_
        refine Cd.ret [] rfl (res1 rfl rfl) trivial ⟨rfl, rfl⟩
      · skip
        refine Jp.y 77 rfl (want_all rfl) rfl rfl Kp.true (Y.geq rfl rfl rfl) ?_
        refine Jp.slot 77 rfl (show _ = Value.bool false from congrArg Value.bool (decide_eq_false (by omega))) ?_
        refine Jp.y 78 rfl (want_all rfl) rfl rfl Kp.true (Y.move rfl rfl) ?_
        refine Jp.slot 78 rfl (show _ = Value.bool false from rfl) ?_
        refine Jp.skip 79 rfl (want_as rfl rfl rfl rfl) rfl rfl Kp.true ?_
        refine Jp.skip 80 rfl (want_as rfl rfl rfl rfl) rfl rfl Kp.true ?_
        refine Jp.skip 81 rfl (want_as rfl rfl rfl rfl) rfl rfl Kp.true ?_
        refine Jp.skip 82 rfl (want_as rfl rfl rfl rfl) rfl rfl Kp.true ?_
        refine Jp.skip 83 rfl (want_as rfl rfl rfl rfl) rfl rfl Kp.true ?_
        refine Jp.skip 84 rfl (want_as rfl rfl rfl rfl) rfl rfl Kp.true ?_
        refine Jp.skip 85 rfl (want_as rfl rfl rfl rfl) rfl rfl Kp.true ?_
        refine Jp.y 86 rfl (want_all rfl) rfl rfl Kp.true (Y.pickF rfl rfl rfl) ?_
        refine Jp.slot 86 rfl (show _ = Value.bool false from rfl) ?_
        refine Jp.y 87 rfl (want_all rfl) rfl rfl Kp.true (Y.move rfl rfl) ?_
        refine Jp.slot 87 rfl (show _ = Value.bool false from rfl) ?_
        refine Jp.y 88 rfl (want_as rfl rfl rfl rfl) rfl rfl Kp.true (Y.move rfl rfl) ?_
        refine Jp.y 89 rfl (want_as rfl rfl rfl rfl) rfl rfl Kp.true (Y.move rfl rfl) ?_
        refine Jp.call [1] [1] (shAt_spec b S2 other ho) 90 rfl (want_as rfl rfl rfl rfl) rfl rfl (Runs.fn rfl Try.call29 rfl) (by decide) (by decide) rfl trivial ?_
        rintro v7 ρ7 L7 ⟨rfl, rfl, rfl⟩
        refine ⟨rfl, fun hle7 => ⟨Kp.true, ?_⟩⟩
        rw [hl]
        refine Jp.y 91 rfl (want_as rfl rfl rfl rfl) rfl rfl Kp.true (Y.move rfl rfl) ?_
        refine Jp.y 92 rfl (want_as rfl rfl rfl rfl) rfl rfl Kp.true (Y.eql rfl rfl rfl) ?_
        refine Jp.slot 92 rfl (show _ = Value.bool true from congrArg Value.bool (by simp)) ?_
        refine Jp.y 93 rfl (want_all rfl) rfl rfl Kp.true (Y.pickF rfl rfl rfl) ?_
        refine Jp.y 10 rfl (want_all rfl) rfl rfl Kp.true (Y.assign rfl rfl) ?_
        refine Jp.done hK24 ?_
        refine Cd.ret [] rfl (res1 rfl rfl) trivial ⟨rfl, rfl⟩
end Go.Proofs.Ytgmhijlcdadaeaa
