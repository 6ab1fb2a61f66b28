/- Law 4: ShadowFull, ShadowApart. -/
import Derived.Test.YtgmhijlcdadaeaaShJ
set_option linter.unusedVariables false
set_option linter.unusedSimpArgs false
set_option maxRecDepth 100000
namespace Go.Proofs.Ytgmhijlcdadaeaa
open Go
theorem full_cases {S : ShG} (h : ShOk S.pages) (hr : S.pages.length ≤ S.budget) {n : Nat} (hn : n < 4294967296) {v : UInt8} (hv : v ≠ 0) : (fillM S n 1 v = (6, S) ∧ labL S.pages n = 0) ∨ ∃ S2, fillM S n 1 v = (0, S2) ∧ S2.budget = S.budget ∧ labL S2.pages n = v := by
  have e0 : fillM S n 1 v = setM S n [v] := by unfold fillM; rw [if_neg (by decide)]; rfl
  have e1 : [v].take (4294967296 - n) = [v] := List.take_of_length_le (by rw [List.length_singleton]; omega)
  rw [e0, setM, e1]
  by_cases hb : S.budget < (layP S.pages n [v]).length
  · left
    rw [if_pos hb]
    refine ⟨rfl, ?_⟩
    cases hg : getPg S.pages (baseN n) with
    | none => exact labL_none hg
    | some p =>
      exfalso
      have hl := putPg_len h (baseN n) ((bOf S.pages (baseN n)).set (n % 256) v)
      have hc : cOf S.pages (baseN n, pgB ((bOf S.pages (baseN n)).set (n % 256) v)) ≤ 0 := by
        unfold cOf
        rw [hg]
        split <;> simp
      have : (layP S.pages n [v]).length = (putPg S.pages (baseN n) ((bOf S.pages (baseN n)).set (n % 256) v)).length := rfl
      omega
  · right
    rw [if_neg hb]
    refine ⟨_, rfl, rfl, ?_⟩
    show labL (oneP S.pages n v) n = v
    rw [labL_one h, if_pos rfl]
theorem shadowFull_spec (m : Int) (l : Sl Int) (hl : ∀ x ∈ l.xs, ∃ n : Nat, x = n ∧ n < 4294967296) : Spec Try.prog 7 #[.int .i64 m, l.v] (RdI .u32 l) [] (fun ρ ρ' v L => v = .bool true ∧ L = []) := by
  obtain ⟨A, c, xs⟩ := l
  dsimp only [Sl.v]
  refine Spec.of 86 Try.func7 rfl Try.ntmps7 [(0, _), (1, _)] rfl rfl ?_
  intro cx ρ hr h0
  have hrs := hr
  have lx : xs.length ≤ 281474976710656 := hrs.2.1.2
  refine Cd.seq fun K1 hK1 => ?_
  refine Cd.plain [(0, false)] rfl rfl ?_
  refine Jp.y 4 rfl (want_all rfl) rfl rfl Kp.true (Y.assign rfl rfl) ?_
  refine Jp.done hK1 ?_
  refine Cd.seq fun K2 hK2 => ?_
  refine Cd.seq fun K3 hK3 => ?_
  refine Cd.plain [(0, false), (1, false)] rfl rfl ?_
  refine Jp.call [] [] awake4_spec 11 rfl (want_all rfl) rfl rfl (Runs.fn rfl Try.call25 rfl) (by decide) (by decide) rfl trivial ?_
  rintro v1 ρ1 L1 ⟨rfl, rfl⟩
  refine ⟨rfl, fun hle1 => ⟨Kp.true, ?_⟩⟩
  have hrs := RdI.up _ _ _ _ hle1 hrs
  refine Jp.y 12 rfl (want_all rfl) rfl rfl Kp.true (Y.not rfl rfl) ?_
  refine Jp.done hK3 ?_
  refine Cd.cond rfl (fun g12 => ?_) (fun g12 => ?_)
  · skip
    exact absurd g12 (by simp)
  try simp only [decide_eq_false_iff_not, decide_eq_true_eq, Int.not_lt, Int.not_le, Bool.not_eq_false, Bool.not_eq_true, Bool.not_true, Bool.not_false, Bool.not_eq_true', Bool.not_eq_false', beq_eq_false_iff_ne, ne_eq, beq_iff_eq, bne_iff_ne, bne_eq_false_iff_eq, Classical.not_not] at g12
  refine Cd.skip hK2 ?_
  refine Cd.seq fun K4 hK4 => ?_
  refine Cd.seq fun K5 hK5 => ?_
  refine Cd.plain [(0, false), (1, false), (2, false), (3, false), (4, false), (5, false), (6, false), (7, false), (8, false), (9, false), (10, false)] rfl rfl ?_
  refine Jp.y 13 rfl (want_all rfl) rfl rfl Kp.true (Y.move rfl rfl) ?_
  refine Jp.y 14 rfl (want_all rfl) rfl rfl Kp.true (Y.lss rfl rfl rfl) ?_
  refine Jp.y 15 rfl (want_all rfl) rfl rfl Kp.true (Y.move rfl rfl) ?_
  refine Jp.split 15 rfl (fun g15 => ?_) (fun g15 => ?_)
  · skip
    refine Jp.skip 16 rfl (want_as rfl rfl rfl rfl) rfl rfl Kp.true ?_
    refine Jp.skip 17 rfl (want_as rfl rfl rfl rfl) rfl rfl Kp.true ?_
    refine Jp.y 18 rfl (want_all rfl) rfl rfl Kp.true (Y.pickT rfl rfl rfl) ?_
    refine Jp.y 19 rfl (want_all rfl) rfl rfl Kp.true (Y.move rfl rfl) ?_
    refine Jp.skip 20 rfl (want_as rfl rfl rfl rfl) rfl rfl Kp.true ?_
    refine Jp.skip 21 rfl (want_as rfl rfl rfl rfl) rfl rfl Kp.true ?_
    refine Jp.skip 22 rfl (want_as rfl rfl rfl rfl) rfl rfl Kp.true ?_
    refine Jp.y 23 rfl (want_all rfl) rfl rfl Kp.true (Y.pickT rfl rfl rfl) ?_
    refine Jp.done hK5 ?_
    refine Cd.condT rfl ?_
    refine Cd.seq fun K6 hK6 => ?_
    refine Cd.plain [(0, false)] rfl rfl ?_
    refine Jp.y 4 rfl (want_all rfl) rfl rfl Kp.true (Y.assign rfl rfl) ?_
    refine Jp.done hK6 ?_
    refine Cd.ret [] rfl (res1 rfl rfl) trivial ⟨rfl, rfl⟩
  try simp only [decide_eq_false_iff_not, decide_eq_true_eq, Int.not_lt, Int.not_le, Bool.not_eq_false, Bool.not_eq_true, Bool.not_true, Bool.not_false, Bool.not_eq_true', Bool.not_eq_false', beq_eq_false_iff_ne, ne_eq, beq_iff_eq, bne_iff_ne, bne_eq_false_iff_eq, Classical.not_not] at g15
  refine Jp.y 16 rfl (want_as rfl rfl rfl rfl) rfl rfl Kp.true (Y.move rfl rfl) ?_
  refine Jp.y 17 rfl (want_as rfl rfl rfl rfl) rfl rfl Kp.true (Y.gtr rfl rfl rfl) ?_
  refine Jp.y 18 rfl (want_all rfl) rfl rfl Kp.true (Y.pickF rfl rfl rfl) ?_
  refine Jp.y 19 rfl (want_all rfl) rfl rfl Kp.true (Y.move rfl rfl) ?_
  refine Jp.split 19 rfl (fun g19 => ?_) (fun g19 => ?_)
  · skip
    refine Jp.skip 20 rfl (want_as rfl rfl rfl rfl) rfl rfl Kp.true ?_
    refine Jp.skip 21 rfl (want_as rfl rfl rfl rfl) rfl rfl Kp.true ?_
    refine Jp.skip 22 rfl (want_as rfl rfl rfl rfl) rfl rfl Kp.true ?_
    refine Jp.y 23 rfl (want_all rfl) rfl rfl Kp.true (Y.pickT rfl rfl rfl) ?_
    refine Jp.done hK5 ?_
    refine Cd.condT rfl ?_
    refine Cd.seq fun K7 hK7 => ?_
    refine Cd.plain [(0, false)] rfl rfl ?_
    refine Jp.y 4 rfl (want_all rfl) rfl rfl Kp.true (Y.assign rfl rfl) ?_
    refine Jp.done hK7 ?_
    refine Cd.ret [] rfl (res1 rfl rfl) trivial ⟨rfl, rfl⟩
  try simp only [decide_eq_false_iff_not, decide_eq_true_eq, Int.not_lt, Int.not_le, Bool.not_eq_false, Bool.not_eq_true, Bool.not_true, Bool.not_false, Bool.not_eq_true', Bool.not_eq_false', beq_eq_false_iff_ne, ne_eq, beq_iff_eq, bne_iff_ne, bne_eq_false_iff_eq, Classical.not_not] at g19
  refine Jp.y 20 rfl (want_as rfl rfl rfl rfl) rfl rfl Kp.true (Y.move rfl rfl) ?_
  refine Jp.y 21 rfl (want_as rfl rfl rfl rfl) rfl rfl Kp.true (Y.lenslice rfl Try.underlying26 rfl) ?_
  refine Jp.y 22 rfl (want_as rfl rfl rfl rfl) rfl rfl Kp.true (Y.gtr rfl rfl rfl) ?_
  refine Jp.y 23 rfl (want_all rfl) rfl rfl Kp.true (Y.pickF rfl rfl rfl) ?_
  refine Jp.done hK5 ?_
  refine Cd.cond rfl (fun g23 => ?_) (fun g23 => ?_)
  · skip
    refine Cd.seq fun K8 hK8 => ?_
    refine Cd.plain [(0, false)] rfl rfl ?_
    refine Jp.y 4 rfl (want_all rfl) rfl rfl Kp.true (Y.assign rfl rfl) ?_
    refine Jp.done hK8 ?_
    refine Cd.ret [] rfl (res1 rfl rfl) trivial ⟨rfl, rfl⟩
  try simp only [decide_eq_false_iff_not, decide_eq_true_eq, Int.not_lt, Int.not_le, Bool.not_eq_false, Bool.not_eq_true, Bool.not_true, Bool.not_false, Bool.not_eq_true', Bool.not_eq_false', beq_eq_false_iff_ne, ne_eq, beq_iff_eq, bne_iff_ne, bne_eq_false_iff_eq, Classical.not_not] at g23
  refine Cd.skip hK4 ?_
  refine Cd.seq fun K9 hK9 => ?_
  refine Cd.plain [(0, false), (1, false), (2, false), (3, false), (4, false), (5, false), (6, false)] rfl rfl ?_
  obtain ⟨m, rfl⟩ := Int.eq_ofNat_of_zero_le (show 0 ≤ m by omega)
  have hm : m ≤ 10 := by omega
  refine Jp.y 25 rfl (want_all rfl) rfl rfl Kp.true (Y.move rfl rfl) ?_
  refine Jp.call [] [1] (shNew_yes m (by omega)) 26 rfl (want_all rfl) rfl rfl (Runs.fn rfl Try.call26 rfl) (by decide) (by decide) rfl trivial ?_
  rintro v2 ρ2 L2 ⟨rfl, b, rfl, rfl⟩
  refine ⟨rfl, fun hle2 => ⟨Kp.true, ?_⟩⟩
  refine Jp.y 24 rfl (want_all rfl) rfl rfl Kp.true (Y.move rfl rfl) ?_
  refine Jp.y 27 rfl (want_all rfl) rfl rfl Kp.true (Y.extract rfl rfl rfl) ?_
  refine Jp.y 28 rfl (want_all rfl) rfl rfl Kp.true (Y.extract rfl rfl rfl) ?_
  refine Jp.y 5 rfl (want_all rfl) rfl rfl Kp.true (Y.assign rfl rfl) ?_
  refine Jp.y 6 rfl (want_all rfl) rfl rfl Kp.true (Y.assign rfl rfl) ?_
  refine Jp.done hK9 ?_
  refine Cd.seq fun K10 hK10 => ?_
  refine Cd.seq fun K11 hK11 => ?_
  refine Cd.plain [(0, false)] rfl rfl ?_
  refine Jp.y 7 rfl (want_all rfl) rfl rfl Kp.true (Y.assign rfl rfl) ?_
  refine Jp.done hK11 ?_
  refine Cd.block ?_
  refine Cd.loopK (G := Nat × ShG × Hp) (fun g => g.1 ≤ xs.length ∧ g.2.1.budget = m ∧ RdI .u32 ⟨A, c, xs⟩ g.2.2 ∧ ρ2.le g.2.2) (fun g => xs.length - g.1) (fun g => g.2.2) (fun g => [(7, .int .i64 (g.1 : Int))]) [(0, _), (1, _), (5, _)] (fun g => [(1, ShO b g.2.1)]) [] ⟨0, ⟨m, []⟩, _⟩ ⟨Nat.zero_le _, rfl, hrs, Hp.le_refl _⟩ rfl ⟨rfl, trivial⟩ ⟨rfl, rfl, rfl, trivial⟩ ⟨rfl, trivial⟩ trivial (fun g KLa hok hLa => ?_)
  obtain ⟨i, S, ρg⟩ := g
  obtain ⟨ok1, ok2, hrs, hle⟩ := hok
  dsimp only at ok1 ok2 hrs hle ⊢
  refine Cd.seq fun K12 hK12 => ?_
  refine Cd.seq fun K13 hK13 => ?_
  refine Cd.plain [(0, false), (1, false), (2, false), (3, false)] rfl rfl ?_
  refine Jp.y 29 rfl (want_all rfl) rfl rfl Kp.true (Y.move rfl rfl) ?_
  refine Jp.y 30 rfl (want_all rfl) rfl rfl Kp.true (Y.move rfl rfl) ?_
  refine Jp.y 31 rfl (want_all rfl) rfl rfl Kp.true (Y.lenslice rfl Try.underlying26 rfl) ?_
  refine Jp.y 32 rfl (want_all rfl) rfl rfl Kp.true (Y.lss rfl rfl rfl) ?_
  refine Jp.done hK13 ?_
  refine Cd.cond rfl (fun ga => ?_) (fun ga => ?_)
  · simp only [decide_eq_true_eq] at ga
    have hi : i < xs.length := by omega
    obtain ⟨n, hn, hnl⟩ := hl xs[i] (List.getElem_mem _)
    refine Cd.know (A := ShO b S) 1 rfl ShO.ok fun hok => ?_
    obtain ⟨hS1, hS2⟩ := hok
    refine Cd.skip hK12 ?_
    refine Cd.seq fun K14 hK14 => ?_
    refine Cd.block ?_
    refine Cd.seq fun K15 hK15 => ?_
    refine Cd.plain [(0, false), (1, false), (2, false)] rfl rfl ?_
    refine Jp.y 35 rfl (want_all rfl) rfl rfl Kp.true (Y.move rfl rfl) ?_
    refine Jp.call [1] [1, 2] (shDirty_spec b S) 36 rfl (want_all rfl) rfl rfl (Runs.fn rfl Try.call27 rfl) (by decide) (by decide) rfl trivial ?_
    rintro v3 ρ3 L3 ⟨A3, c3, rfl, rfl⟩
    refine ⟨rfl, fun hle3 => ⟨Kp.true, ?_⟩⟩
    have hrs := RdI.up _ _ _ _ hle3 hrs
    obtain ⟨ad, hA, hc⟩ := hrs.2.2 i (.int .u32 n) (by simp [intsV, hi, hn])
    subst hA
    refine Jp.y 8 rfl (want_all rfl) rfl rfl Kp.true (Y.assign rfl rfl) ?_
    refine Jp.done hK15 ?_
    refine Cd.seq fun K16 hK16 => ?_
    refine Cd.plain [(0, false), (1, false), (2, false), (3, false), (4, false), (5, false), (6, false)] rfl rfl ?_
    refine Jp.y 37 rfl (want_all rfl) rfl rfl Kp.true (Y.move rfl rfl) ?_
    refine Jp.y 38 rfl (want_all rfl) rfl rfl Kp.true (Y.move rfl rfl) ?_
    refine Jp.y 39 rfl (want_all rfl) rfl rfl Kp.true (Y.move rfl rfl) ?_
    refine Jp.y 40 rfl (want_all rfl) rfl rfl Kp.true (Y.indexAddr (q := i) rfl rfl rfl Try.underlying26 Try.sizeOf25 (by omega) (by omega) (by omega)) ?_
    refine Jp.y 41 rfl (want_all rfl) rfl rfl Kp.true (Y.loadR rfl Try.isAgg25 rfl hc) ?_
    have hF := shFill_spec b S n 1 7 hnl
    rcases full_cases hS1 hS2 hnl (v := 7) (by decide) with ⟨f1, f2⟩ | ⟨S2, f1, f2, f3⟩
    · rw [f1] at hF
      refine Jp.call [1] [1] hF 42 rfl (want_all rfl) rfl rfl (Runs.fn rfl Try.call28 rfl) (by decide) (by decide) rfl trivial ?_
      rintro v4 ρ4 L4 ⟨rfl, rfl, rfl⟩
      refine ⟨rfl, fun hle4 => ⟨Kp.true, ?_⟩⟩
      refine Jp.y 9 rfl (want_all rfl) rfl rfl Kp.true (Y.assign rfl rfl) ?_
      refine Jp.done hK16 ?_
      refine Cd.seq fun K17 hK17 => ?_
      refine Cd.plain [(0, false), (1, false), (2, false)] rfl rfl ?_
      refine Jp.y 43 rfl (want_all rfl) rfl rfl Kp.true (Y.move rfl rfl) ?_
      refine Jp.call [1] [1, 3] (shDirty_spec b S) 44 rfl (want_all rfl) rfl rfl (Runs.fn rfl Try.call27 rfl) (by decide) (by decide) rfl trivial ?_
      rintro v5 ρ5 L5 ⟨A5, c5, rfl, rfl⟩
      refine ⟨rfl, fun hle5 => ⟨Kp.true, ?_⟩⟩
      have hrs := RdI.up _ _ _ _ hle5 hrs
      obtain ⟨ad2, hA, hc5⟩ := hrs.2.2 i (.int .u32 n) (by simp [intsV, hi, hn])
      injection hA with hA
      subst hA
      refine Jp.y 10 rfl (want_all rfl) rfl rfl Kp.true (Y.assign rfl rfl) ?_
      refine Jp.done hK17 ?_
      refine Cd.seq fun K18 hK18 => ?_
      refine Cd.plain [(0, false), (1, false), (2, false), (3, false), (4, false), (5, false), (6, false), (7, false), (8, false), (9, false), (10, false), (11, false), (12, false), (13, false), (14, false), (15, false), (16, false), (17, false), (18, false), (19, false), (20, false), (21, false), (22, false), (23, false), (24, false), (25, false), (26, false), (27, false), (28, false), (29, false), (30, false), (31, false), (32, false), (33, false), (34, false), (35, false), (36, false), (37, false), (38, false), (39, false), (40, false)] rfl rfl ?_
      refine Jp.y 45 rfl (want_all rfl) rfl rfl Kp.true (Y.move rfl rfl) ?_
      refine Jp.y 46 rfl (want_all rfl) rfl rfl Kp.true (Y.lenslice rfl Try.underlying26 rfl) ?_
      refine Jp.y 47 rfl (want_all rfl) rfl rfl Kp.true (Y.move rfl rfl) ?_
      refine Jp.y 48 rfl (want_all rfl) rfl rfl Kp.true (Y.gtr rfl rfl rfl) ?_
      refine Jp.slot 48 rfl (show _ = Value.bool false from congrArg Value.bool (decide_eq_false (by omega))) ?_
      refine Jp.y 49 rfl (want_all rfl) rfl rfl Kp.true (Y.move rfl rfl) ?_
      refine Jp.slot 49 rfl (show _ = Value.bool false from rfl) ?_
      refine Jp.y 50 rfl (want_as rfl rfl rfl rfl) rfl rfl Kp.true (Y.move rfl rfl) ?_
      refine Jp.y 51 rfl (want_as rfl rfl rfl rfl) rfl rfl Kp.true (Y.neq rfl rfl rfl) ?_
      refine Jp.slot 51 rfl (show _ = Value.bool true from rfl) ?_
      refine Jp.y 52 rfl (want_as rfl rfl rfl rfl) rfl rfl Kp.true (Y.move rfl rfl) ?_
      refine Jp.slot 52 rfl (show _ = Value.bool true from rfl) ?_
      refine Jp.y 53 rfl (want_as rfl rfl rfl rfl) rfl rfl Kp.true (Y.move rfl rfl) ?_
      refine Jp.y 54 rfl (want_as rfl rfl rfl rfl) rfl rfl Kp.true (Y.neq rfl rfl rfl) ?_
      refine Jp.slot 54 rfl (show _ = Value.bool false from rfl) ?_
      refine Jp.y 55 rfl (want_as rfl rfl rfl rfl) rfl rfl Kp.true (Y.move rfl rfl) ?_
      refine Jp.slot 55 rfl (show _ = Value.bool false from rfl) ?_
      refine Jp.y 56 rfl (want_as rfl rfl rfl rfl) rfl rfl Kp.true (Y.move rfl rfl) ?_
      refine Jp.y 57 rfl (want_as rfl rfl rfl rfl) rfl rfl Kp.true (Y.lenslice rfl Try.underlying26 rfl) ?_
      refine Jp.y 58 rfl (want_as rfl rfl rfl rfl) rfl rfl Kp.true (Y.move rfl rfl) ?_
      refine Jp.y 59 rfl (want_as rfl rfl rfl rfl) rfl rfl Kp.true (Y.lenslice rfl Try.underlying26 rfl) ?_
      refine Jp.y 60 rfl (want_as rfl rfl rfl rfl) rfl rfl Kp.true (Y.neq rfl rfl rfl) ?_
      refine Jp.slot 60 rfl (show _ = Value.bool false from congrArg Value.bool (by simp)) ?_
      refine Jp.y 61 rfl (want_as rfl rfl rfl rfl) rfl rfl Kp.true (Y.pickF rfl rfl rfl) ?_
      refine Jp.slot 61 rfl (show _ = Value.bool false from rfl) ?_
      refine Jp.y 62 rfl (want_as rfl rfl rfl rfl) rfl rfl Kp.true (Y.move rfl rfl) ?_
      refine Jp.slot 62 rfl (show _ = Value.bool false from rfl) ?_
      refine Jp.y 63 rfl (want_as rfl rfl rfl rfl) rfl rfl Kp.true (Y.move rfl rfl) ?_
      refine Jp.y 64 rfl (want_as rfl rfl rfl rfl) rfl rfl Kp.true (Y.move rfl rfl) ?_
      refine Jp.y 65 rfl (want_as rfl rfl rfl rfl) rfl rfl Kp.true (Y.move rfl rfl) ?_
      refine Jp.y 66 rfl (want_as rfl rfl rfl rfl) rfl rfl Kp.true (Y.indexAddr (q := i) rfl rfl rfl Try.underlying26 Try.sizeOf25 (by omega) (by omega) (by omega)) ?_
      refine Jp.y 67 rfl (want_as rfl rfl rfl rfl) rfl rfl Kp.true (Y.loadR rfl Try.isAgg25 rfl hc5) ?_
      refine Jp.call [1] [1] (shAt_spec b S n hnl) 68 rfl (want_as rfl rfl rfl rfl) rfl rfl (Runs.fn rfl Try.call29 rfl) (by decide) (by decide) rfl trivial ?_
      rintro v6 ρ6 L6 ⟨rfl, rfl, rfl⟩
      refine ⟨rfl, fun hle6 => ⟨Kp.true, ?_⟩⟩
      rw [f2]
      refine Jp.y 69 rfl (want_as rfl rfl rfl rfl) rfl rfl Kp.true (Y.neq rfl rfl rfl) ?_
      refine Jp.slot 69 rfl (show _ = Value.bool false from rfl) ?_
      refine Jp.y 70 rfl (want_as rfl rfl rfl rfl) rfl rfl Kp.true (Y.pickF rfl rfl rfl) ?_
      refine Jp.slot 70 rfl (show _ = Value.bool false from rfl) ?_
      refine Jp.y 71 rfl (want_as rfl rfl rfl rfl) rfl rfl Kp.true (Y.pickT rfl rfl rfl) ?_
      refine Jp.slot 71 rfl (show _ = Value.bool false from rfl) ?_
      refine Jp.y 72 rfl (want_all rfl) rfl rfl Kp.true (Y.pickF rfl rfl rfl) ?_
      refine Jp.slot 72 rfl (show _ = Value.bool false from rfl) ?_
      refine Jp.y 73 rfl (want_all rfl) rfl rfl Kp.true (Y.move rfl rfl) ?_
      refine Jp.slot 73 rfl (show _ = Value.bool false from rfl) ?_
      refine Jp.y 74 rfl (want_as rfl rfl rfl rfl) rfl rfl Kp.true (Y.move rfl rfl) ?_
      refine Jp.y 75 rfl (want_as rfl rfl rfl rfl) rfl rfl Kp.true (Y.eql rfl rfl rfl) ?_
      refine Jp.slot 75 rfl (show _ = Value.bool false from rfl) ?_
      refine Jp.y 76 rfl (want_as rfl rfl rfl rfl) rfl rfl Kp.true (Y.move rfl rfl) ?_
      refine Jp.slot 76 rfl (show _ = Value.bool false from rfl) ?_
      refine Jp.skip 77 rfl (want_as rfl rfl rfl rfl) rfl rfl Kp.true ?_
      refine Jp.skip 78 rfl (want_as rfl rfl rfl rfl) rfl rfl Kp.true ?_
      refine Jp.skip 79 rfl (want_as rfl rfl rfl rfl) rfl rfl Kp.true ?_
      refine Jp.skip 80 rfl (want_as rfl rfl rfl rfl) rfl rfl Kp.true ?_
      refine Jp.skip 81 rfl (want_as rfl rfl rfl rfl) rfl rfl Kp.true ?_
      refine Jp.skip 82 rfl (want_as rfl rfl rfl rfl) rfl rfl Kp.true ?_
      refine Jp.skip 83 rfl (want_as rfl rfl rfl rfl) rfl rfl Kp.true ?_
      refine Jp.y 84 rfl (want_as rfl rfl rfl rfl) rfl rfl Kp.true (Y.pickF rfl rfl rfl) ?_
      refine Jp.y 85 rfl (want_all rfl) rfl rfl Kp.true (Y.pickF rfl rfl rfl) ?_
      refine Jp.done hK18 ?_
      refine Cd.condF rfl ?_
      refine Cd.over rfl hK14 ?_
      refine Cd.plain [(0, false), (1, false), (2, false)] rfl rfl ?_
      refine Jp.y 33 rfl (want_all rfl) rfl rfl Kp.true (Y.move rfl rfl) ?_
      refine Jp.y 34 rfl (want_all rfl) rfl rfl Kp.true (Y.add_ rfl rfl rfl (by first | exact wrap_i64 (by omega) (by omega) | rfl)) ?_
      refine Jp.y 7 rfl (want_all rfl) rfl rfl Kp.true (Y.assign rfl rfl) ?_
      rw [show (i : Int) + 1 = ((i + 1 : Nat) : Int) by omega]
      refine Jp.again hLa ⟨i + 1, S, _⟩ ⟨hi, ok2, hrs, Hp.le_trans hle (Hp.le_trans hle3 hle5)⟩ (by show xs.length - (i + 1) < xs.length - i; omega) rfl ⟨rfl, rfl, rfl, rfl, trivial⟩ ⟨rfl, trivial⟩
    · rw [f1] at hF
      refine Jp.call [1] [1] hF 42 rfl (want_all rfl) rfl rfl (Runs.fn rfl Try.call28 rfl) (by decide) (by decide) rfl trivial ?_
      rintro v4 ρ4 L4 ⟨rfl, rfl, rfl⟩
      refine ⟨rfl, fun hle4 => ⟨Kp.true, ?_⟩⟩
      refine Jp.know (A := ShO b S2) 1 rfl ShO.ok fun hok2 => ?_
      have hS3 := hok2.2
      refine Jp.y 9 rfl (want_all rfl) rfl rfl Kp.true (Y.assign rfl rfl) ?_
      refine Jp.done hK16 ?_
      refine Cd.seq fun K19 hK19 => ?_
      refine Cd.plain [(0, false), (1, false), (2, false)] rfl rfl ?_
      refine Jp.y 43 rfl (want_all rfl) rfl rfl Kp.true (Y.move rfl rfl) ?_
      refine Jp.call [1] [1, 3] (shDirty_spec b S2) 44 rfl (want_all rfl) rfl rfl (Runs.fn rfl Try.call27 rfl) (by decide) (by decide) rfl trivial ?_
      rintro v5 ρ5 L5 ⟨A5, c5, rfl, rfl⟩
      refine ⟨rfl, fun hle5 => ⟨Kp.true, ?_⟩⟩
      have hrs := RdI.up _ _ _ _ hle5 hrs
      obtain ⟨ad2, hA, hc5⟩ := hrs.2.2 i (.int .u32 n) (by simp [intsV, hi, hn])
      injection hA with hA
      subst hA
      refine Jp.y 10 rfl (want_all rfl) rfl rfl Kp.true (Y.assign rfl rfl) ?_
      refine Jp.done hK19 ?_
      refine Cd.seq fun K20 hK20 => ?_
      refine Cd.plain [(0, false), (1, false), (2, false), (3, false), (4, false), (5, false), (6, false), (7, false), (8, false), (9, false), (10, false), (11, false), (12, false), (13, false), (14, false), (15, false), (16, false), (17, false), (18, false), (19, false), (20, false), (21, false), (22, false), (23, false), (24, false), (25, false), (26, false), (27, false), (28, false), (29, false), (30, false), (31, false), (32, false), (33, false), (34, false), (35, false), (36, false), (37, false), (38, false), (39, false), (40, false)] rfl rfl ?_
      refine Jp.y 45 rfl (want_all rfl) rfl rfl Kp.true (Y.move rfl rfl) ?_
      refine Jp.y 46 rfl (want_all rfl) rfl rfl Kp.true (Y.lenslice rfl Try.underlying26 rfl) ?_
      refine Jp.y 47 rfl (want_all rfl) rfl rfl Kp.true (Y.move rfl rfl) ?_
      refine Jp.y 48 rfl (want_all rfl) rfl rfl Kp.true (Y.gtr rfl rfl rfl) ?_
      refine Jp.slot 48 rfl (show _ = Value.bool false from congrArg Value.bool (decide_eq_false (by omega))) ?_
      refine Jp.y 49 rfl (want_all rfl) rfl rfl Kp.true (Y.move rfl rfl) ?_
      refine Jp.slot 49 rfl (show _ = Value.bool false from rfl) ?_
      refine Jp.y 50 rfl (want_as rfl rfl rfl rfl) rfl rfl Kp.true (Y.move rfl rfl) ?_
      refine Jp.y 51 rfl (want_as rfl rfl rfl rfl) rfl rfl Kp.true (Y.neq rfl rfl rfl) ?_
      refine Jp.slot 51 rfl (show _ = Value.bool false from rfl) ?_
      refine Jp.y 52 rfl (want_as rfl rfl rfl rfl) rfl rfl Kp.true (Y.move rfl rfl) ?_
      refine Jp.slot 52 rfl (show _ = Value.bool false from rfl) ?_
      refine Jp.skip 53 rfl (want_as rfl rfl rfl rfl) rfl rfl Kp.true ?_
      refine Jp.skip 54 rfl (want_as rfl rfl rfl rfl) rfl rfl Kp.true ?_
      refine Jp.skip 55 rfl (want_as rfl rfl rfl rfl) rfl rfl Kp.true ?_
      refine Jp.skip 56 rfl (want_un rfl rfl rfl) rfl rfl Kp.true ?_
      refine Jp.skip 57 rfl (want_un rfl rfl rfl) rfl rfl Kp.true ?_
      refine Jp.skip 58 rfl (want_un rfl rfl rfl) rfl rfl Kp.true ?_
      refine Jp.skip 59 rfl (want_un rfl rfl rfl) rfl rfl Kp.true ?_
      refine Jp.skip 60 rfl (want_un rfl rfl rfl) rfl rfl Kp.true ?_
      refine Jp.skip 61 rfl (want_as rfl rfl rfl rfl) rfl rfl Kp.true ?_
      refine Jp.skip 62 rfl (want_as rfl rfl rfl rfl) rfl rfl Kp.true ?_
      refine Jp.skip 63 rfl (want_un rfl rfl rfl) rfl rfl Kp.true ?_
      refine Jp.skip 64 rfl (want_un rfl rfl rfl) rfl rfl Kp.true ?_
      refine Jp.skip 65 rfl (want_un rfl rfl rfl) rfl rfl Kp.true ?_
      refine Jp.skip 66 rfl (want_un rfl rfl rfl) rfl rfl Kp.true ?_
      refine Jp.skip 67 rfl (want_un rfl rfl rfl) rfl rfl Kp.true ?_
      refine Jp.skip 68 rfl (want_un rfl rfl rfl) rfl rfl Kp.true ?_
      refine Jp.skip 69 rfl (want_un rfl rfl rfl) rfl rfl Kp.true ?_
      refine Jp.skip 70 rfl (want_as rfl rfl rfl rfl) rfl rfl Kp.true ?_
      refine Jp.y 71 rfl (want_as rfl rfl rfl rfl) rfl rfl Kp.true (Y.pickF rfl rfl rfl) ?_
      refine Jp.slot 71 rfl (show _ = Value.bool false from rfl) ?_
      refine Jp.y 72 rfl (want_all rfl) rfl rfl Kp.true (Y.pickF rfl rfl rfl) ?_
      refine Jp.slot 72 rfl (show _ = Value.bool false from rfl) ?_
      refine Jp.y 73 rfl (want_all rfl) rfl rfl Kp.true (Y.move rfl rfl) ?_
      refine Jp.slot 73 rfl (show _ = Value.bool false from rfl) ?_
      refine Jp.y 74 rfl (want_as rfl rfl rfl rfl) rfl rfl Kp.true (Y.move rfl rfl) ?_
      refine Jp.y 75 rfl (want_as rfl rfl rfl rfl) rfl rfl Kp.true (Y.eql rfl rfl rfl) ?_
      refine Jp.slot 75 rfl (show _ = Value.bool true from rfl) ?_
      refine Jp.y 76 rfl (want_as rfl rfl rfl rfl) rfl rfl Kp.true (Y.move rfl rfl) ?_
      refine Jp.slot 76 rfl (show _ = Value.bool true from rfl) ?_
      refine Jp.y 77 rfl (want_as rfl rfl rfl rfl) rfl rfl Kp.true (Y.move rfl rfl) ?_
      refine Jp.y 78 rfl (want_as rfl rfl rfl rfl) rfl rfl Kp.true (Y.move rfl rfl) ?_
      refine Jp.y 79 rfl (want_as rfl rfl rfl rfl) rfl rfl Kp.true (Y.move rfl rfl) ?_
      refine Jp.y 80 rfl (want_as rfl rfl rfl rfl) rfl rfl Kp.true (Y.indexAddr (q := i) rfl rfl rfl Try.underlying26 Try.sizeOf25 (by omega) (by omega) (by omega)) ?_
      refine Jp.y 81 rfl (want_as rfl rfl rfl rfl) rfl rfl Kp.true (Y.loadR rfl Try.isAgg25 rfl hc5) ?_
      refine Jp.call [1] [1] (shAt_spec b S2 n hnl) 82 rfl (want_as rfl rfl rfl rfl) rfl rfl (Runs.fn rfl Try.call29 rfl) (by decide) (by decide) rfl trivial ?_
      rintro v6 ρ6 L6 ⟨rfl, rfl, rfl⟩
      refine ⟨rfl, fun hle6 => ⟨Kp.true, ?_⟩⟩
      rw [f3]
      refine Jp.y 83 rfl (want_as rfl rfl rfl rfl) rfl rfl Kp.true (Y.neq rfl rfl rfl) ?_
      refine Jp.slot 83 rfl (show _ = Value.bool false from rfl) ?_
      refine Jp.y 84 rfl (want_as rfl rfl rfl rfl) rfl rfl Kp.true (Y.pickT rfl rfl rfl) ?_
      refine Jp.slot 84 rfl (show _ = Value.bool false from rfl) ?_
      refine Jp.y 85 rfl (want_all rfl) rfl rfl Kp.true (Y.pickF rfl rfl rfl) ?_
      refine Jp.done hK20 ?_
      refine Cd.condF rfl ?_
      refine Cd.over rfl hK14 ?_
      refine Cd.plain [(0, false), (1, false), (2, false)] rfl rfl ?_
      refine Jp.y 33 rfl (want_all rfl) rfl rfl Kp.true (Y.move rfl rfl) ?_
      refine Jp.y 34 rfl (want_all rfl) rfl rfl Kp.true (Y.add_ rfl rfl rfl (by first | exact wrap_i64 (by omega) (by omega) | rfl)) ?_
      refine Jp.y 7 rfl (want_all rfl) rfl rfl Kp.true (Y.assign rfl rfl) ?_
      rw [show (i : Int) + 1 = ((i + 1 : Nat) : Int) by omega]
      refine Jp.again hLa ⟨i + 1, S2, _⟩ ⟨hi, by show S2.budget = m; omega, hrs, Hp.le_trans hle (Hp.le_trans hle3 hle5)⟩ (by show xs.length - (i + 1) < xs.length - i; omega) rfl ⟨rfl, rfl, rfl, rfl, trivial⟩ ⟨rfl, trivial⟩
  · skip
    refine Cd.exit rfl hK10 ?_
    refine Cd.seq fun K21 hK21 => ?_
    refine Cd.plain [(0, false)] rfl rfl ?_
    refine Jp.y 4 rfl (want_all rfl) rfl rfl Kp.true (Y.assign rfl rfl) ?_
    refine Jp.done hK21 ?_
    refine Cd.ret [] rfl (res1 rfl rfl) trivial ⟨rfl, rfl⟩
end Go.Proofs.Ytgmhijlcdadaeaa
