/- MemFull. -/
import Derived.Test.YtgfbdiibndbbjaaSortX2
import Derived.Test.YtgfbdiibndbbjaaIterX2
import Derived.Test.YtgfbdiibndbbjaaMemGa
import Derived.Test.YtgfbdiibndbbjaaMemX1
set_option linter.unusedVariables false
set_option linter.unusedSimpArgs false
set_option maxRecDepth 100000
namespace Go.Proofs.Ytgfbdiibndbbjaa
open Go
theorem and_high (v : Nat) (hv : v < 4294967296) : v &&& 4294967040 = v - v % 256 := by
  have h : v - v % 256 = v / 2 ^ 8 * 2 ^ 8 := by omega
  rw [h]
  apply Nat.eq_of_testBit_eq
  intro i
  rw [Nat.testBit_and, Nat.testBit_mul_two_pow, Nat.testBit_div_two_pow, show (4294967040 : Nat) = 16777215 * 2 ^ 8 from rfl, Nat.testBit_mul_two_pow, show (16777215 : Nat) = 2 ^ 24 - 1 from rfl, Nat.testBit_two_pow_sub_one]
  by_cases h8 : 8 ≤ i
  · rw [show i - 8 + 8 = i by omega]
    by_cases h32 : i < 32
    · simp [h8, show i - 8 < 24 by omega]
    · have : v.testBit i = false := Nat.testBit_lt_two_pow (Nat.lt_of_lt_of_le hv (by
        have := Nat.pow_le_pow_right (n := 2) (by omega) (show 32 ≤ i by omega)
        omega))
      simp [this]
  · simp [h8]
theorem bits_high {v : Nat} (hv : v < 4294967296) : bitsB .andNot .u32 v 255 = ((v - v % 256 : Nat) : Int) := by
  show IntKind.u32.wrap ((BitVec.ofInt 32 (v : Int) &&& ~~~BitVec.ofInt 32 ((255 : Nat) : Int)).toNat : Int) = _
  rw [BitVec.toNat_and, BitVec.toNat_not, ofInt_nat 32 v hv, ofInt_nat 32 255 (by decide)]
  rw [show 2 ^ 32 - 1 - 255 = 4294967040 from rfl, and_high v hv]
  exact wrap_u32 (x := ((v - v % 256 : Nat) : Int)) (by omega) (by omega)
/-- Where a stretch is laid: all of it, or none. -/
theorem map_full {M : MemG} {v : Nat} (hv : v < 4294967296) (hr : M.pages.length ≤ M.budget) :
    ∃ (e : Int) (M' : MemG), (mapM M ((v - v % 256) % 268435456) (256 * (v % 8) + 1) 3).1 = e ∧ (mapM M ((v - v % 256) % 268435456) (256 * (v % 8) + 1) 3).2 = M' ∧ M'.budget = M.budget ∧ M'.pages.length ≤ M.budget ∧
      ((e = 0 ∧ M'.pages.length = M.pages.length + v % 8 + 1) ∨ ((e = 5 ∨ e = 6) ∧ M'.pages.length = M.pages.length)) := by
  refine ⟨_, _, rfl, rfl, ?_⟩
  have hs : stretch ((v - v % 256) % 268435456) (256 * (v % 8) + 1) = some (v % 8 + 1) := by
    rw [stretch, if_pos (by omega)]
    exact congrArg some (by omega)
  rw [mapM, hs]
  dsimp only
  rw [if_neg (by omega)]
  split
  · exact ⟨rfl, hr, Or.inr ⟨Or.inl rfl, rfl⟩⟩
  · split
    · exact ⟨rfl, hr, Or.inr ⟨Or.inr rfl, rfl⟩⟩
    · refine ⟨addPgs_budget .., ?_, Or.inl ⟨rfl, ?_⟩⟩ <;> rw [addPgs_length] <;> omega
theorem memFull_spec (bud : Int) (s : Sl Int) (hs : ∀ x ∈ s.xs, ∃ m : Nat, x = m ∧ m < 4294967296) : Spec Try.prog 9 #[.int .i64 bud, s.v] (RdI .u32 s) [] (fun ρ ρ' v L => v = .bool true ∧ L = []) := by
  obtain ⟨A, c, xs⟩ := s
  dsimp only [Sl.v]
  refine Spec.of 95 Try.func9 rfl Try.ntmps9 [(0, _), (1, _)] rfl rfl ?_
  intro cx ρ hr h0
  have lx : xs.length ≤ 281474976710656 := hr.2.1.2
  refine Cd.seq fun K1 hK1 => ?_
  refine Cd.plain [(0, false)] rfl rfl ?_
  refine Jp.y 4 rfl (want_all rfl) rfl rfl Kp.true (Y.assign rfl rfl) ?_
  refine Jp.done hK1 ?_
  refine Cd.seq fun K2 hK2 => ?_
  refine Cd.seq fun K3 hK3 => ?_
  refine Cd.plain [(0, false), (1, false)] rfl rfl ?_
  refine Jp.call [] [] awake3_spec 12 rfl (want_all rfl) rfl rfl (Runs.fn rfl Try.call18 rfl) (by decide) (by decide) rfl trivial ?_
  rintro v1 ρ1 L1 ⟨rfl, rfl⟩
  refine ⟨rfl, fun hle1 => ⟨Kp.true, ?_⟩⟩
  have hr := RdI.up _ _ _ _ hle1 hr
  refine Jp.y 13 rfl (want_all rfl) rfl rfl Kp.true (Y.not rfl rfl) ?_
  refine Jp.done hK3 ?_
  refine Cd.cond rfl (fun g13 => ?_) (fun g13 => ?_)
  · skip
    exact absurd g13 (by simp)
  try simp only [decide_eq_false_iff_not, decide_eq_true_eq, Int.not_lt, Int.not_le, Bool.not_eq_false, Bool.not_eq_true, Bool.not_true, Bool.not_false, Bool.not_eq_true', Bool.not_eq_false', beq_eq_false_iff_ne, ne_eq, beq_iff_eq, bne_iff_ne, bne_eq_false_iff_eq, Classical.not_not] at g13
  refine Cd.skip hK2 ?_
  refine Cd.seq fun K4 hK4 => ?_
  refine Cd.seq fun K5 hK5 => ?_
  refine Cd.plain [(0, false), (1, false), (2, false), (3, false), (4, false), (5, false), (6, false), (7, false), (8, false), (9, false), (10, false)] rfl rfl ?_
  refine Jp.y 14 rfl (want_all rfl) rfl rfl Kp.true (Y.move rfl rfl) ?_
  refine Jp.y 15 rfl (want_all rfl) rfl rfl Kp.true (Y.lss rfl rfl rfl) ?_
  refine Jp.y 16 rfl (want_all rfl) rfl rfl Kp.true (Y.move rfl rfl) ?_
  refine Jp.split 16 rfl (fun g16 => ?_) (fun g16 => ?_)
  · skip
    refine Jp.skip 17 rfl (want_as rfl rfl rfl rfl) rfl rfl Kp.true ?_
    refine Jp.skip 18 rfl (want_as rfl rfl rfl rfl) rfl rfl Kp.true ?_
    refine Jp.y 19 rfl (want_all rfl) rfl rfl Kp.true (Y.pickT rfl rfl rfl) ?_
    refine Jp.y 20 rfl (want_all rfl) rfl rfl Kp.true (Y.move rfl rfl) ?_
    refine Jp.skip 21 rfl (want_as rfl rfl rfl rfl) rfl rfl Kp.true ?_
    refine Jp.skip 22 rfl (want_as rfl rfl rfl rfl) rfl rfl Kp.true ?_
    refine Jp.skip 23 rfl (want_as rfl rfl rfl rfl) rfl rfl Kp.true ?_
    refine Jp.y 24 rfl (want_all rfl) rfl rfl Kp.true (Y.pickT rfl rfl rfl) ?_
    refine Jp.done hK5 ?_
    refine Cd.condT rfl ?_
    refine Cd.seq fun K6 hK6 => ?_
    refine Cd.plain [(0, false)] rfl rfl ?_
    refine Jp.y 4 rfl (want_all rfl) rfl rfl Kp.true (Y.assign rfl rfl) ?_
    refine Jp.done hK6 ?_
    refine Cd.ret [] rfl (res1 rfl rfl) trivial ⟨rfl, rfl⟩
  try simp only [decide_eq_false_iff_not, decide_eq_true_eq, Int.not_lt, Int.not_le, Bool.not_eq_false, Bool.not_eq_true, Bool.not_true, Bool.not_false, Bool.not_eq_true', Bool.not_eq_false', beq_eq_false_iff_ne, ne_eq, beq_iff_eq, bne_iff_ne, bne_eq_false_iff_eq, Classical.not_not] at g16
  refine Jp.y 17 rfl (want_as rfl rfl rfl rfl) rfl rfl Kp.true (Y.move rfl rfl) ?_
  refine Jp.y 18 rfl (want_as rfl rfl rfl rfl) rfl rfl Kp.true (Y.gtr rfl rfl rfl) ?_
  refine Jp.y 19 rfl (want_all rfl) rfl rfl Kp.true (Y.pickF rfl rfl rfl) ?_
  refine Jp.y 20 rfl (want_all rfl) rfl rfl Kp.true (Y.move rfl rfl) ?_
  refine Jp.split 20 rfl (fun g20 => ?_) (fun g20 => ?_)
  · skip
    refine Jp.skip 21 rfl (want_as rfl rfl rfl rfl) rfl rfl Kp.true ?_
    refine Jp.skip 22 rfl (want_as rfl rfl rfl rfl) rfl rfl Kp.true ?_
    refine Jp.skip 23 rfl (want_as rfl rfl rfl rfl) rfl rfl Kp.true ?_
    refine Jp.y 24 rfl (want_all rfl) rfl rfl Kp.true (Y.pickT rfl rfl rfl) ?_
    refine Jp.done hK5 ?_
    refine Cd.condT rfl ?_
    refine Cd.seq fun K7 hK7 => ?_
    refine Cd.plain [(0, false)] rfl rfl ?_
    refine Jp.y 4 rfl (want_all rfl) rfl rfl Kp.true (Y.assign rfl rfl) ?_
    refine Jp.done hK7 ?_
    refine Cd.ret [] rfl (res1 rfl rfl) trivial ⟨rfl, rfl⟩
  try simp only [decide_eq_false_iff_not, decide_eq_true_eq, Int.not_lt, Int.not_le, Bool.not_eq_false, Bool.not_eq_true, Bool.not_true, Bool.not_false, Bool.not_eq_true', Bool.not_eq_false', beq_eq_false_iff_ne, ne_eq, beq_iff_eq, bne_iff_ne, bne_eq_false_iff_eq, Classical.not_not] at g20
  refine Jp.y 21 rfl (want_as rfl rfl rfl rfl) rfl rfl Kp.true (Y.move rfl rfl) ?_
  refine Jp.y 22 rfl (want_as rfl rfl rfl rfl) rfl rfl Kp.true (Y.lenslice rfl Try.underlying56 rfl) ?_
  refine Jp.y 23 rfl (want_as rfl rfl rfl rfl) rfl rfl Kp.true (Y.gtr rfl rfl rfl) ?_
  refine Jp.y 24 rfl (want_all rfl) rfl rfl Kp.true (Y.pickF rfl rfl rfl) ?_
  refine Jp.done hK5 ?_
  refine Cd.cond rfl (fun g24 => ?_) (fun g24 => ?_)
  · skip
    refine Cd.seq fun K8 hK8 => ?_
    refine Cd.plain [(0, false)] rfl rfl ?_
    refine Jp.y 4 rfl (want_all rfl) rfl rfl Kp.true (Y.assign rfl rfl) ?_
    refine Jp.done hK8 ?_
    refine Cd.ret [] rfl (res1 rfl rfl) trivial ⟨rfl, rfl⟩
  try simp only [decide_eq_false_iff_not, decide_eq_true_eq, Int.not_lt, Int.not_le, Bool.not_eq_false, Bool.not_eq_true, Bool.not_true, Bool.not_false, Bool.not_eq_true', Bool.not_eq_false', beq_eq_false_iff_ne, ne_eq, beq_iff_eq, bne_iff_ne, bne_eq_false_iff_eq, Classical.not_not] at g24
  refine Cd.skip hK4 ?_
  refine Cd.seq fun K9 hK9 => ?_
  refine Cd.plain [(0, false), (1, false), (2, false), (3, false), (4, false), (5, false), (6, false)] rfl rfl ?_
  refine Jp.y 26 rfl (want_all rfl) rfl rfl Kp.true (Y.move rfl rfl) ?_
  obtain ⟨bn, rfl⟩ := Int.eq_ofNat_of_zero_le (show 0 ≤ bud by omega)
  refine Jp.call [] [0] (new_yes bn (by omega)) 27 rfl (want_all rfl) rfl rfl (Runs.fn rfl Try.call19 rfl) (by decide) (by decide) rfl trivial ?_
  rintro v2 ρ2 L2 ⟨rfl, b, rfl, rfl⟩
  refine ⟨rfl, fun hle2 => ⟨Kp.true, ?_⟩⟩
  refine Jp.y 25 rfl (want_all rfl) rfl rfl Kp.true (Y.move rfl rfl) ?_
  refine Jp.y 28 rfl (want_all rfl) rfl rfl Kp.true (Y.extract rfl rfl rfl) ?_
  refine Jp.y 29 rfl (want_all rfl) rfl rfl Kp.true (Y.extract rfl rfl rfl) ?_
  refine Jp.y 5 rfl (want_all rfl) rfl rfl Kp.true (Y.assign rfl rfl) ?_
  refine Jp.y 6 rfl (want_all rfl) rfl rfl Kp.true (Y.assign rfl rfl) ?_
  refine Jp.done hK9 ?_
  refine Cd.seq fun K10 hK10 => ?_
  refine Cd.seq fun K11 hK11 => ?_
  refine Cd.plain [(0, false)] rfl rfl ?_
  refine Jp.y 7 rfl (want_all rfl) rfl rfl Kp.true (Y.assign rfl rfl) ?_
  refine Jp.done hK11 ?_
  refine Cd.block ?_
  refine Cd.loopK (G := Nat × MemG × Hp) (fun g => g.1 ≤ xs.length ∧ g.2.1.budget = bn ∧ g.2.1.pages.length ≤ bn ∧ RdI .u32 ⟨A, c, xs⟩ g.2.2) (fun g => xs.length - g.1) (fun g => g.2.2) (fun g => [(7, .int .i64 g.1)]) [(0, _), (1, _), (5, _)] (fun g => [(0, MemO b g.2.1)]) [] ⟨0, newM bn, _⟩ ⟨Nat.zero_le _, rfl, Nat.zero_le _, hr⟩ rfl ⟨rfl, trivial⟩ ⟨rfl, rfl, rfl, trivial⟩ ⟨rfl, trivial⟩ trivial (fun g KLa hok hLa => ?_)
  clear hr
  obtain ⟨i, M, ρ0⟩ := g
  obtain ⟨ok1, ok2, ok3, hr⟩ := hok
  dsimp only at ok1 ok2 ok3 hr ⊢
  refine Cd.seq fun K12 hK12 => ?_
  refine Cd.seq fun K13 hK13 => ?_
  refine Cd.plain [(0, false), (1, false), (2, false), (3, false)] rfl rfl ?_
  refine Jp.y 30 rfl (want_all rfl) rfl rfl Kp.true (Y.move rfl rfl) ?_
  refine Jp.y 31 rfl (want_all rfl) rfl rfl Kp.true (Y.move rfl rfl) ?_
  refine Jp.y 32 rfl (want_all rfl) rfl rfl Kp.true (Y.lenslice rfl Try.underlying56 rfl) ?_
  refine Jp.y 33 rfl (want_all rfl) rfl rfl Kp.true (Y.lss rfl rfl rfl) ?_
  refine Jp.done hK13 ?_
  refine Cd.cond rfl (fun ga => ?_) (fun ga => ?_)
  · simp only [decide_eq_true_eq] at ga
    have hi : i < xs.length := by omega
    obtain ⟨x, hxe, hxl⟩ := hs xs[i] (List.getElem_mem _)
    refine Cd.skip hK12 ?_
    refine Cd.seq fun K14 hK14 => ?_
    refine Cd.block ?_
    refine Cd.seq fun K15 hK15 => ?_
    refine Cd.plain [(0, false), (1, false), (2, false), (3, false)] rfl rfl ?_
    refine Jp.y 36 rfl (want_all rfl) rfl rfl Kp.true (Y.move rfl rfl) ?_
    refine Jp.call [0] [0, 1] (pages_spec b M (sorts4096 _ (by omega))) 37 rfl (want_all rfl) rfl rfl (Runs.fn rfl Try.call29 rfl) (by decide) (by decide) rfl trivial ?_
    rintro v3 ρ3 L3 ⟨A1, c1, rfl, rfl⟩
    refine ⟨rfl, fun hle3 => ⟨Kp.true, ?_⟩⟩
    have hr := RdI.up _ _ _ _ hle3 hr
    obtain ⟨ad, hA, hc⟩ := hr.2.2 i (.int .u32 x) (by simp [intsV, hi, hxe])
    subst hA
    refine Jp.y 38 rfl (want_all rfl) rfl rfl Kp.true (Y.lenslice rfl Try.underlying56 rfl) ?_
    refine Jp.y 8 rfl (want_all rfl) rfl rfl Kp.true (Y.assign rfl rfl) ?_
    refine Jp.done hK15 ?_
    refine Cd.seq fun K16 hK16 => ?_
    refine Cd.plain [(0, false), (1, false), (2, false), (3, false), (4, false), (5, false), (6, false), (7, false)] rfl rfl ?_
    refine Jp.y 39 rfl (want_all rfl) rfl rfl Kp.true (Y.move rfl rfl) ?_
    refine Jp.y 40 rfl (want_all rfl) rfl rfl Kp.true (Y.move rfl rfl) ?_
    refine Jp.y 41 rfl (want_all rfl) rfl rfl Kp.true (Y.indexAddr (q := i) rfl rfl rfl Try.underlying56 Try.sizeOf26 (by omega) (by omega) (by omega)) ?_
    refine Jp.y 42 rfl (want_all rfl) rfl rfl Kp.true (Y.loadR rfl Try.isAgg26 rfl hc) ?_
    refine Jp.y 43 rfl (want_all rfl) rfl rfl Kp.true (Y.bits rfl rfl rfl rfl) ?_
    refine Jp.slot 43 rfl (show _ = Value.int .u32 ((x % 8 : Nat) : Int) from congrArg (Value.int .u32) (mask32 (k := 3) hxl (by omega))) ?_
    refine Jp.y 44 rfl (want_all rfl) rfl rfl Kp.true (Y.mul_ rfl rfl rfl (by first | exact wrap_u32 (by omega) (by omega) | rfl)) ?_
    refine Jp.y 45 rfl (want_all rfl) rfl rfl Kp.true (Y.add_ rfl rfl rfl (by first | exact wrap_u32 (by omega) (by omega) | rfl)) ?_
    refine Jp.y 9 rfl (want_all rfl) rfl rfl Kp.true (Y.assign rfl rfl) ?_
    refine Jp.done hK16 ?_
    refine Cd.seq fun K17 hK17 => ?_
    refine Cd.plain [(0, false), (1, false), (2, false), (3, false), (4, false), (5, false), (6, false), (7, false), (8, false), (9, false)] rfl rfl ?_
    refine Jp.y 46 rfl (want_all rfl) rfl rfl Kp.true (Y.move rfl rfl) ?_
    refine Jp.y 47 rfl (want_all rfl) rfl rfl Kp.true (Y.move rfl rfl) ?_
    refine Jp.y 48 rfl (want_all rfl) rfl rfl Kp.true (Y.move rfl rfl) ?_
    refine Jp.y 49 rfl (want_all rfl) rfl rfl Kp.true (Y.indexAddr (q := i) rfl rfl rfl Try.underlying56 Try.sizeOf26 (by omega) (by omega) (by omega)) ?_
    refine Jp.y 50 rfl (want_all rfl) rfl rfl Kp.true (Y.loadR rfl Try.isAgg26 rfl hc) ?_
    refine Jp.y 51 rfl (want_all rfl) rfl rfl Kp.true (Y.bits rfl rfl rfl rfl) ?_
    refine Jp.slot 51 rfl (show _ = Value.int .u32 ((x - x % 256 : Nat) : Int) from congrArg (Value.int .u32) (bits_high hxl)) ?_
    refine Jp.slot 9 rfl (show _ = Value.int .u32 ((256 * (x % 8) + 1 : Nat) : Int) from congrArg (Value.int .u32) (by omega)) ?_
    refine Jp.y 52 rfl (want_all rfl) rfl rfl Kp.true (Y.bits rfl rfl rfl rfl) ?_
    refine Jp.y 53 rfl (want_all rfl) rfl rfl Kp.true (Y.move rfl rfl) ?_
    refine Jp.slot 52 rfl (show _ = Value.int .u32 (((x - x % 256) % 268435456 : Nat) : Int) from congrArg (Value.int .u32) (mask32 (k := 28) (by omega) (by omega))) ?_
    obtain ⟨e, M2, hM1, hM2, hb2, hl2, hcase⟩ := map_full hxl (show M.pages.length ≤ M.budget by omega)
    refine Jp.call [0] [0] (map_eq (by omega) (by omega) hM1 hM2) 54 rfl (want_all rfl) rfl rfl (Runs.fn rfl Try.call20 rfl) (by decide) (by decide) rfl trivial ?_
    rintro v4 ρ4 L4 ⟨rfl, rfl, rfl⟩
    refine ⟨rfl, fun hle4 => ⟨Kp.true, ?_⟩⟩
    refine Jp.y 10 rfl (want_all rfl) rfl rfl Kp.true (Y.assign rfl rfl) ?_
    refine Jp.done hK17 ?_
    refine Cd.seq fun K18 hK18 => ?_
    refine Cd.plain [(0, false), (1, false), (2, false), (3, false)] rfl rfl ?_
    refine Jp.y 55 rfl (want_all rfl) rfl rfl Kp.true (Y.move rfl rfl) ?_
    refine Jp.call [0] [0, 2] (pages_spec b M2 (sorts4096 _ (by omega))) 56 rfl (want_all rfl) rfl rfl (Runs.fn rfl Try.call29 rfl) (by decide) (by decide) rfl trivial ?_
    rintro v5 ρ5 L5 ⟨A2, c2, rfl, rfl⟩
    refine ⟨rfl, fun hle5 => ⟨Kp.true, ?_⟩⟩
    have hr := RdI.up _ _ _ _ hle5 hr
    have hc2 := cellH_up hle5 hc
    have hm7 : bitsB .and .u32 (x : Int) 7 = ((x % 8 : Nat) : Int) := mask32 (k := 3) hxl (by omega)
    refine Jp.y 57 rfl (want_all rfl) rfl rfl Kp.true (Y.lenslice rfl Try.underlying56 rfl) ?_
    refine Jp.y 11 rfl (want_all rfl) rfl rfl Kp.true (Y.assign rfl rfl) ?_
    refine Jp.done hK18 ?_
    refine Cd.seq fun K19 hK19 => ?_
    refine Cd.plain [(0, false), (1, false), (2, false), (3, false), (4, false), (5, false), (6, false), (7, false), (8, false), (9, false), (10, false), (11, false), (12, false), (13, false), (14, false), (15, false), (16, false), (17, false), (18, false), (19, false), (20, false), (21, false), (22, false), (23, false), (24, false), (25, false), (26, false), (27, false), (28, false), (29, false), (30, false), (31, false), (32, false), (33, false), (34, false), (35, false), (36, false)] rfl rfl ?_
    refine Jp.y 58 rfl (want_all rfl) rfl rfl Kp.true (Y.move rfl rfl) ?_
    refine Jp.y 59 rfl (want_all rfl) rfl rfl Kp.true (Y.move rfl rfl) ?_
    refine Jp.y 60 rfl (want_all rfl) rfl rfl Kp.true (Y.gtr rfl rfl rfl) ?_
    refine Jp.y 61 rfl (want_all rfl) rfl rfl Kp.true (Y.move rfl rfl) ?_
    rcases hcase with ⟨rfl, hn⟩ | ⟨rfl | rfl, hn⟩
    · skip
      refine Jp.split 61 rfl (fun g61 => ?_) (fun g61 => ?_)
      · skip
        first
        | omega
        | (simp at g61; done)
        | (simp at g61; omega)
      try simp only [decide_eq_false_iff_not, decide_eq_true_eq, Int.not_lt, Int.not_le, Bool.not_eq_false, Bool.not_eq_true, Bool.not_true, Bool.not_false, Bool.not_eq_true', Bool.not_eq_false', beq_eq_false_iff_ne, ne_eq, beq_iff_eq, bne_iff_ne, bne_eq_false_iff_eq, Classical.not_not] at g61
      refine Jp.y 62 rfl (want_as rfl rfl rfl rfl) rfl rfl Kp.true (Y.move rfl rfl) ?_
      refine Jp.y 63 rfl (want_as rfl rfl rfl rfl) rfl rfl Kp.true (Y.eql rfl rfl rfl) ?_
      refine Jp.y 64 rfl (want_as rfl rfl rfl rfl) rfl rfl Kp.true (Y.move rfl rfl) ?_
      refine Jp.splitF 64 rfl (fun g64 => ?_) (fun g64 => ?_)
      · skip
        first
        | omega
        | (simp at g64; done)
        | (simp at g64; omega)
      try simp only [decide_eq_false_iff_not, decide_eq_true_eq, Int.not_lt, Int.not_le, Bool.not_eq_false, Bool.not_eq_true, Bool.not_true, Bool.not_false, Bool.not_eq_true', Bool.not_eq_false', beq_eq_false_iff_ne, ne_eq, beq_iff_eq, bne_iff_ne, bne_eq_false_iff_eq, Classical.not_not] at g64
      refine Jp.y 65 rfl (want_as rfl rfl rfl rfl) rfl rfl Kp.true (Y.move rfl rfl) ?_
      refine Jp.y 66 rfl (want_as rfl rfl rfl rfl) rfl rfl Kp.true (Y.move rfl rfl) ?_
      refine Jp.y 67 rfl (want_as rfl rfl rfl rfl) rfl rfl Kp.true (Y.move rfl rfl) ?_
      refine Jp.y 68 rfl (want_as rfl rfl rfl rfl) rfl rfl Kp.true (Y.move rfl rfl) ?_
      refine Jp.y 69 rfl (want_as rfl rfl rfl rfl) rfl rfl Kp.true (Y.indexAddr (q := i) rfl rfl rfl Try.underlying56 Try.sizeOf26 (by omega) (by omega) (by omega)) ?_
      refine Jp.y 70 rfl (want_as rfl rfl rfl rfl) rfl rfl Kp.true (Y.loadR rfl Try.isAgg26 rfl hc2) ?_
      refine Jp.y 71 rfl (want_as rfl rfl rfl rfl) rfl rfl Kp.true (Y.bits rfl rfl rfl rfl) ?_
      refine Jp.slot 71 rfl (show _ = Value.int .u32 ((x % 8 : Nat) : Int) from congrArg (Value.int .u32) hm7) ?_
      refine Jp.y 72 rfl (want_as rfl rfl rfl rfl) rfl rfl Kp.true (Y.conv_ rfl rfl Try.underlying26 Try.underlying3 (by first | exact wrap_i64 (by omega) (by omega) | rfl)) ?_
      refine Jp.y 73 rfl (want_as rfl rfl rfl rfl) rfl rfl Kp.true (Y.add_ rfl rfl rfl (by first | exact wrap_i64 (by omega) (by omega) | rfl)) ?_
      refine Jp.y 74 rfl (want_as rfl rfl rfl rfl) rfl rfl Kp.true (Y.add_ rfl rfl rfl (by first | exact wrap_i64 (by omega) (by omega) | rfl)) ?_
      refine Jp.y 75 rfl (want_as rfl rfl rfl rfl) rfl rfl Kp.true (Y.neq rfl rfl rfl) ?_
      refine Jp.y 76 rfl (want_as rfl rfl rfl rfl) rfl rfl Kp.true (Y.pickT rfl rfl rfl) ?_
      refine Jp.y 77 rfl (want_all rfl) rfl rfl Kp.true (Y.pickF rfl rfl rfl) ?_
      refine Jp.y 78 rfl (want_all rfl) rfl rfl Kp.true (Y.move rfl rfl) ?_
      refine Jp.split 78 rfl (fun g78 => ?_) (fun g78 => ?_)
      · skip
        try simp only [decide_eq_false_iff_not, decide_eq_true_eq, Int.not_lt, Int.not_le, Bool.not_eq_false, Bool.not_eq_true, Bool.not_true, Bool.not_false, Bool.not_eq_true', Bool.not_eq_false', beq_eq_false_iff_ne, ne_eq, beq_iff_eq, bne_iff_ne, bne_eq_false_iff_eq, Classical.not_not] at g78
        first
        | done
        | (first
           | omega
           | (simp at g78; done)
           | (simp at g78; omega))
        | skip
          refine Jp.skip 79 rfl (want_as rfl rfl rfl rfl) rfl rfl Kp.true ?_
          refine Jp.skip 80 rfl (want_as rfl rfl rfl rfl) rfl rfl Kp.true ?_
          refine Jp.skip 81 rfl (want_as rfl rfl rfl rfl) rfl rfl Kp.true ?_
          refine Jp.skip 82 rfl (want_un rfl rfl rfl) rfl rfl Kp.true ?_
          refine Jp.skip 83 rfl (want_un rfl rfl rfl) rfl rfl Kp.true ?_
          refine Jp.skip 84 rfl (want_un rfl rfl rfl) rfl rfl Kp.true ?_
          refine Jp.skip 85 rfl (want_un rfl rfl rfl) rfl rfl Kp.true ?_
          refine Jp.skip 86 rfl (want_un rfl rfl rfl) rfl rfl Kp.true ?_
          refine Jp.skip 87 rfl (want_un rfl rfl rfl) rfl rfl Kp.true ?_
          refine Jp.skip 88 rfl (want_un rfl rfl rfl) rfl rfl Kp.true ?_
          refine Jp.skip 89 rfl (want_un rfl rfl rfl) rfl rfl Kp.true ?_
          refine Jp.skip 90 rfl (want_un rfl rfl rfl) rfl rfl Kp.true ?_
          refine Jp.skip 91 rfl (want_un rfl rfl rfl) rfl rfl Kp.true ?_
          refine Jp.skip 92 rfl (want_un rfl rfl rfl) rfl rfl Kp.true ?_
          refine Jp.skip 93 rfl (want_as rfl rfl rfl rfl) rfl rfl Kp.true ?_
          refine Jp.y 94 rfl (want_all rfl) rfl rfl Kp.true (Y.pickT rfl rfl rfl) ?_
          refine Jp.done hK19 ?_
          refine Cd.condT rfl ?_
          refine Cd.seq fun K20 hK20 => ?_
          refine Cd.plain [(0, false)] rfl rfl ?_
          refine Jp.y 4 rfl (want_all rfl) rfl rfl Kp.true (Y.assign rfl rfl) ?_
          refine Jp.done hK20 ?_
          refine Cd.ret [] rfl (res1 rfl rfl) trivial ⟨rfl, rfl⟩
      · skip
        try simp only [decide_eq_false_iff_not, decide_eq_true_eq, Int.not_lt, Int.not_le, Bool.not_eq_false, Bool.not_eq_true, Bool.not_true, Bool.not_false, Bool.not_eq_true', Bool.not_eq_false', beq_eq_false_iff_ne, ne_eq, beq_iff_eq, bne_iff_ne, bne_eq_false_iff_eq, Classical.not_not] at g78
        first
        | done
        | (first
           | omega
           | (simp at g78; done)
           | (simp at g78; omega))
        | skip
          refine Jp.y 79 rfl (want_as rfl rfl rfl rfl) rfl rfl Kp.true (Y.move rfl rfl) ?_
          refine Jp.y 80 rfl (want_as rfl rfl rfl rfl) rfl rfl Kp.true (Y.neq rfl rfl rfl) ?_
          refine Jp.y 81 rfl (want_as rfl rfl rfl rfl) rfl rfl Kp.true (Y.move rfl rfl) ?_
          refine Jp.split 81 rfl (fun g81 => ?_) (fun g81 => ?_)
          · skip
            try simp only [decide_eq_false_iff_not, decide_eq_true_eq, Int.not_lt, Int.not_le, Bool.not_eq_false, Bool.not_eq_true, Bool.not_true, Bool.not_false, Bool.not_eq_true', Bool.not_eq_false', beq_eq_false_iff_ne, ne_eq, beq_iff_eq, bne_iff_ne, bne_eq_false_iff_eq, Classical.not_not] at g81
            first
            | done
            | (first
               | omega
               | (simp at g81; done)
               | (simp at g81; omega))
            | skip
              refine Jp.y 82 rfl (want_as rfl rfl rfl rfl) rfl rfl Kp.true (Y.move rfl rfl) ?_
              refine Jp.y 83 rfl (want_as rfl rfl rfl rfl) rfl rfl Kp.true (Y.move rfl rfl) ?_
              refine Jp.y 84 rfl (want_as rfl rfl rfl rfl) rfl rfl Kp.true (Y.neq rfl rfl rfl) ?_
              refine Jp.y 85 rfl (want_as rfl rfl rfl rfl) rfl rfl Kp.true (Y.move rfl rfl) ?_
              refine Jp.split 85 rfl (fun g85 => ?_) (fun g85 => ?_)
              · skip
                try simp only [decide_eq_false_iff_not, decide_eq_true_eq, Int.not_lt, Int.not_le, Bool.not_eq_false, Bool.not_eq_true, Bool.not_true, Bool.not_false, Bool.not_eq_true', Bool.not_eq_false', beq_eq_false_iff_ne, ne_eq, beq_iff_eq, bne_iff_ne, bne_eq_false_iff_eq, Classical.not_not] at g85
                first
                | done
                | (first
                   | omega
                   | (simp at g85; done)
                   | (simp at g85; omega))
                | skip
                  refine Jp.skip 86 rfl (want_as rfl rfl rfl rfl) rfl rfl Kp.true ?_
                  refine Jp.skip 87 rfl (want_as rfl rfl rfl rfl) rfl rfl Kp.true ?_
                  refine Jp.skip 88 rfl (want_as rfl rfl rfl rfl) rfl rfl Kp.true ?_
                  refine Jp.skip 89 rfl (want_un rfl rfl rfl) rfl rfl Kp.true ?_
                  refine Jp.skip 90 rfl (want_un rfl rfl rfl) rfl rfl Kp.true ?_
                  refine Jp.skip 91 rfl (want_as rfl rfl rfl rfl) rfl rfl Kp.true ?_
                  refine Jp.y 92 rfl (want_as rfl rfl rfl rfl) rfl rfl Kp.true (Y.pickT rfl rfl rfl) ?_
                  refine Jp.y 93 rfl (want_as rfl rfl rfl rfl) rfl rfl Kp.true (Y.pickT rfl rfl rfl) ?_
                  refine Jp.y 94 rfl (want_all rfl) rfl rfl Kp.true (Y.pickF rfl rfl rfl) ?_
                  refine Jp.done hK19 ?_
                  refine Cd.condT rfl ?_
                  refine Cd.seq fun K21 hK21 => ?_
                  refine Cd.plain [(0, false)] rfl rfl ?_
                  refine Jp.y 4 rfl (want_all rfl) rfl rfl Kp.true (Y.assign rfl rfl) ?_
                  refine Jp.done hK21 ?_
                  refine Cd.ret [] rfl (res1 rfl rfl) trivial ⟨rfl, rfl⟩
              · skip
                try simp only [decide_eq_false_iff_not, decide_eq_true_eq, Int.not_lt, Int.not_le, Bool.not_eq_false, Bool.not_eq_true, Bool.not_true, Bool.not_false, Bool.not_eq_true', Bool.not_eq_false', beq_eq_false_iff_ne, ne_eq, beq_iff_eq, bne_iff_ne, bne_eq_false_iff_eq, Classical.not_not] at g85
                first
                | done
                | (first
                   | omega
                   | (simp at g85; done)
                   | (simp at g85; omega))
                | skip
                  refine Jp.y 86 rfl (want_as rfl rfl rfl rfl) rfl rfl Kp.true (Y.move rfl rfl) ?_
                  refine Jp.y 87 rfl (want_as rfl rfl rfl rfl) rfl rfl Kp.true (Y.neq rfl rfl rfl) ?_
                  refine Jp.y 88 rfl (want_as rfl rfl rfl rfl) rfl rfl Kp.true (Y.move rfl rfl) ?_
                  refine Jp.split 88 rfl (fun g88 => ?_) (fun g88 => ?_)
                  · skip
                    try simp only [decide_eq_false_iff_not, decide_eq_true_eq, Int.not_lt, Int.not_le, Bool.not_eq_false, Bool.not_eq_true, Bool.not_true, Bool.not_false, Bool.not_eq_true', Bool.not_eq_false', beq_eq_false_iff_ne, ne_eq, beq_iff_eq, bne_iff_ne, bne_eq_false_iff_eq, Classical.not_not] at g88
                    first
                    | done
                    | (first
                       | omega
                       | (simp at g88; done)
                       | (simp at g88; omega))
                    | skip
                      refine Jp.y 89 rfl (want_as rfl rfl rfl rfl) rfl rfl Kp.true (Y.move rfl rfl) ?_
                      refine Jp.y 90 rfl (want_as rfl rfl rfl rfl) rfl rfl Kp.true (Y.neq rfl rfl rfl) ?_
                      refine Jp.y 91 rfl (want_as rfl rfl rfl rfl) rfl rfl Kp.true (Y.pickT rfl rfl rfl) ?_
                      refine Jp.y 92 rfl (want_as rfl rfl rfl rfl) rfl rfl Kp.true (Y.pickF rfl rfl rfl) ?_
                      refine Jp.y 93 rfl (want_as rfl rfl rfl rfl) rfl rfl Kp.true (Y.pickT rfl rfl rfl) ?_
                      refine Jp.y 94 rfl (want_all rfl) rfl rfl Kp.true (Y.pickF rfl rfl rfl) ?_
                      refine Jp.done hK19 ?_
                      refine Cd.cond rfl (fun g94 => ?_) (fun g94 => ?_)
                      · skip
                        try simp only [decide_eq_false_iff_not, decide_eq_true_eq, Int.not_lt, Int.not_le, Bool.not_eq_false, Bool.not_eq_true, Bool.not_true, Bool.not_false, Bool.not_eq_true', Bool.not_eq_false', beq_eq_false_iff_ne, ne_eq, beq_iff_eq, bne_iff_ne, bne_eq_false_iff_eq, Classical.not_not] at g94
                        first
                        | done
                        | (first
                           | omega
                           | (simp at g94; done)
                           | (simp at g94; omega))
                        | skip
                          refine Cd.seq fun K22 hK22 => ?_
                          refine Cd.plain [(0, false)] rfl rfl ?_
                          refine Jp.y 4 rfl (want_all rfl) rfl rfl Kp.true (Y.assign rfl rfl) ?_
                          refine Jp.done hK22 ?_
                          refine Cd.ret [] rfl (res1 rfl rfl) trivial ⟨rfl, rfl⟩
                      · skip
                        try simp only [decide_eq_false_iff_not, decide_eq_true_eq, Int.not_lt, Int.not_le, Bool.not_eq_false, Bool.not_eq_true, Bool.not_true, Bool.not_false, Bool.not_eq_true', Bool.not_eq_false', beq_eq_false_iff_ne, ne_eq, beq_iff_eq, bne_iff_ne, bne_eq_false_iff_eq, Classical.not_not] at g94
                        first
                        | done
                        | (first
                           | omega
                           | (simp at g94; done)
                           | (simp at g94; omega))
                        | skip
                          refine Cd.over rfl hK14 ?_
                          refine Cd.plain [(0, false), (1, false), (2, false)] rfl rfl ?_
                          refine Jp.y 34 rfl (want_all rfl) rfl rfl Kp.true (Y.move rfl rfl) ?_
                          refine Jp.y 35 rfl (want_all rfl) rfl rfl Kp.true (Y.add_ rfl rfl rfl (by first | exact wrap_i64 (by omega) (by omega) | rfl)) ?_
                          refine Jp.y 7 rfl (want_all rfl) rfl rfl Kp.true (Y.assign rfl rfl) ?_
                          refine Jp.again hLa ⟨i + 1, M2, _⟩ ⟨hi, by rw [hb2]; exact ok2, by show M2.pages.length ≤ bn; omega, hr⟩ (by show xs.length - (i + 1) < xs.length - i; omega) rfl ⟨rfl, rfl, rfl, rfl, trivial⟩ ⟨rfl, trivial⟩
                  · skip
                    try simp only [decide_eq_false_iff_not, decide_eq_true_eq, Int.not_lt, Int.not_le, Bool.not_eq_false, Bool.not_eq_true, Bool.not_true, Bool.not_false, Bool.not_eq_true', Bool.not_eq_false', beq_eq_false_iff_ne, ne_eq, beq_iff_eq, bne_iff_ne, bne_eq_false_iff_eq, Classical.not_not] at g88
                    first
                    | done
                    | (first
                       | omega
                       | (simp at g88; done)
                       | (simp at g88; omega))
                    | skip
                      refine Jp.skip 89 rfl (want_as rfl rfl rfl rfl) rfl rfl Kp.true ?_
                      refine Jp.skip 90 rfl (want_as rfl rfl rfl rfl) rfl rfl Kp.true ?_
                      refine Jp.y 91 rfl (want_as rfl rfl rfl rfl) rfl rfl Kp.true (Y.pickF rfl rfl rfl) ?_
                      refine Jp.y 92 rfl (want_as rfl rfl rfl rfl) rfl rfl Kp.true (Y.pickF rfl rfl rfl) ?_
                      refine Jp.y 93 rfl (want_as rfl rfl rfl rfl) rfl rfl Kp.true (Y.pickT rfl rfl rfl) ?_
                      refine Jp.y 94 rfl (want_all rfl) rfl rfl Kp.true (Y.pickF rfl rfl rfl) ?_
                      refine Jp.done hK19 ?_
                      refine Cd.condF rfl ?_
                      refine Cd.over rfl hK14 ?_
                      refine Cd.plain [(0, false), (1, false), (2, false)] rfl rfl ?_
                      refine Jp.y 34 rfl (want_all rfl) rfl rfl Kp.true (Y.move rfl rfl) ?_
                      refine Jp.y 35 rfl (want_all rfl) rfl rfl Kp.true (Y.add_ rfl rfl rfl (by first | exact wrap_i64 (by omega) (by omega) | rfl)) ?_
                      refine Jp.y 7 rfl (want_all rfl) rfl rfl Kp.true (Y.assign rfl rfl) ?_
                      refine Jp.again hLa ⟨i + 1, M2, _⟩ ⟨hi, by rw [hb2]; exact ok2, by show M2.pages.length ≤ bn; omega, hr⟩ (by show xs.length - (i + 1) < xs.length - i; omega) rfl ⟨rfl, rfl, rfl, rfl, trivial⟩ ⟨rfl, trivial⟩
          · skip
            try simp only [decide_eq_false_iff_not, decide_eq_true_eq, Int.not_lt, Int.not_le, Bool.not_eq_false, Bool.not_eq_true, Bool.not_true, Bool.not_false, Bool.not_eq_true', Bool.not_eq_false', beq_eq_false_iff_ne, ne_eq, beq_iff_eq, bne_iff_ne, bne_eq_false_iff_eq, Classical.not_not] at g81
            first
            | done
            | (first
               | omega
               | (simp at g81; done)
               | (simp at g81; omega))
            | skip
              refine Jp.skip 82 rfl (want_as rfl rfl rfl rfl) rfl rfl Kp.true ?_
              refine Jp.skip 83 rfl (want_as rfl rfl rfl rfl) rfl rfl Kp.true ?_
              refine Jp.skip 84 rfl (want_as rfl rfl rfl rfl) rfl rfl Kp.true ?_
              refine Jp.skip 85 rfl (want_as rfl rfl rfl rfl) rfl rfl Kp.true ?_
              refine Jp.skip 86 rfl (want_un rfl rfl rfl) rfl rfl Kp.true ?_
              refine Jp.skip 87 rfl (want_un rfl rfl rfl) rfl rfl Kp.true ?_
              refine Jp.skip 88 rfl (want_un rfl rfl rfl) rfl rfl Kp.true ?_
              refine Jp.skip 89 rfl (want_un rfl rfl rfl) rfl rfl Kp.true ?_
              refine Jp.skip 90 rfl (want_un rfl rfl rfl) rfl rfl Kp.true ?_
              refine Jp.skip 91 rfl (want_un rfl rfl rfl) rfl rfl Kp.true ?_
              refine Jp.skip 92 rfl (want_as rfl rfl rfl rfl) rfl rfl Kp.true ?_
              refine Jp.y 93 rfl (want_as rfl rfl rfl rfl) rfl rfl Kp.true (Y.pickF rfl rfl rfl) ?_
              refine Jp.y 94 rfl (want_all rfl) rfl rfl Kp.true (Y.pickF rfl rfl rfl) ?_
              refine Jp.done hK19 ?_
              refine Cd.condF rfl ?_
              refine Cd.over rfl hK14 ?_
              refine Cd.plain [(0, false), (1, false), (2, false)] rfl rfl ?_
              refine Jp.y 34 rfl (want_all rfl) rfl rfl Kp.true (Y.move rfl rfl) ?_
              refine Jp.y 35 rfl (want_all rfl) rfl rfl Kp.true (Y.add_ rfl rfl rfl (by first | exact wrap_i64 (by omega) (by omega) | rfl)) ?_
              refine Jp.y 7 rfl (want_all rfl) rfl rfl Kp.true (Y.assign rfl rfl) ?_
              refine Jp.again hLa ⟨i + 1, M2, _⟩ ⟨hi, by rw [hb2]; exact ok2, by show M2.pages.length ≤ bn; omega, hr⟩ (by show xs.length - (i + 1) < xs.length - i; omega) rfl ⟨rfl, rfl, rfl, rfl, trivial⟩ ⟨rfl, trivial⟩
    · skip
      refine Jp.split 61 rfl (fun g61 => ?_) (fun g61 => ?_)
      · skip
        try simp only [decide_eq_false_iff_not, decide_eq_true_eq, Int.not_lt, Int.not_le, Bool.not_eq_false, Bool.not_eq_true, Bool.not_true, Bool.not_false, Bool.not_eq_true', Bool.not_eq_false', beq_eq_false_iff_ne, ne_eq, beq_iff_eq, bne_iff_ne, bne_eq_false_iff_eq, Classical.not_not] at g61
        first
        | done
        | (first
           | omega
           | (simp at g61; done)
           | (simp at g61; omega))
        | skip
          refine Jp.skip 62 rfl (want_as rfl rfl rfl rfl) rfl rfl Kp.true ?_
          refine Jp.skip 63 rfl (want_as rfl rfl rfl rfl) rfl rfl Kp.true ?_
          refine Jp.skip 64 rfl (want_as rfl rfl rfl rfl) rfl rfl Kp.true ?_
          refine Jp.skip 65 rfl (want_un rfl rfl rfl) rfl rfl Kp.true ?_
          refine Jp.skip 66 rfl (want_un rfl rfl rfl) rfl rfl Kp.true ?_
          refine Jp.skip 67 rfl (want_un rfl rfl rfl) rfl rfl Kp.true ?_
          refine Jp.skip 68 rfl (want_un rfl rfl rfl) rfl rfl Kp.true ?_
          refine Jp.skip 69 rfl (want_un rfl rfl rfl) rfl rfl Kp.true ?_
          refine Jp.skip 70 rfl (want_un rfl rfl rfl) rfl rfl Kp.true ?_
          refine Jp.skip 71 rfl (want_un rfl rfl rfl) rfl rfl Kp.true ?_
          refine Jp.skip 72 rfl (want_un rfl rfl rfl) rfl rfl Kp.true ?_
          refine Jp.skip 73 rfl (want_un rfl rfl rfl) rfl rfl Kp.true ?_
          refine Jp.skip 74 rfl (want_un rfl rfl rfl) rfl rfl Kp.true ?_
          refine Jp.skip 75 rfl (want_un rfl rfl rfl) rfl rfl Kp.true ?_
          refine Jp.skip 76 rfl (want_as rfl rfl rfl rfl) rfl rfl Kp.true ?_
          refine Jp.y 77 rfl (want_all rfl) rfl rfl Kp.true (Y.pickT rfl rfl rfl) ?_
          refine Jp.y 78 rfl (want_all rfl) rfl rfl Kp.true (Y.move rfl rfl) ?_
          refine Jp.skip 79 rfl (want_as rfl rfl rfl rfl) rfl rfl Kp.true ?_
          refine Jp.skip 80 rfl (want_as rfl rfl rfl rfl) rfl rfl Kp.true ?_
          refine Jp.skip 81 rfl (want_as rfl rfl rfl rfl) rfl rfl Kp.true ?_
          refine Jp.skip 82 rfl (want_un rfl rfl rfl) rfl rfl Kp.true ?_
          refine Jp.skip 83 rfl (want_un rfl rfl rfl) rfl rfl Kp.true ?_
          refine Jp.skip 84 rfl (want_un rfl rfl rfl) rfl rfl Kp.true ?_
          refine Jp.skip 85 rfl (want_un rfl rfl rfl) rfl rfl Kp.true ?_
          refine Jp.skip 86 rfl (want_un rfl rfl rfl) rfl rfl Kp.true ?_
          refine Jp.skip 87 rfl (want_un rfl rfl rfl) rfl rfl Kp.true ?_
          refine Jp.skip 88 rfl (want_un rfl rfl rfl) rfl rfl Kp.true ?_
          refine Jp.skip 89 rfl (want_un rfl rfl rfl) rfl rfl Kp.true ?_
          refine Jp.skip 90 rfl (want_un rfl rfl rfl) rfl rfl Kp.true ?_
          refine Jp.skip 91 rfl (want_un rfl rfl rfl) rfl rfl Kp.true ?_
          refine Jp.skip 92 rfl (want_un rfl rfl rfl) rfl rfl Kp.true ?_
          refine Jp.skip 93 rfl (want_as rfl rfl rfl rfl) rfl rfl Kp.true ?_
          refine Jp.y 94 rfl (want_all rfl) rfl rfl Kp.true (Y.pickT rfl rfl rfl) ?_
          refine Jp.done hK19 ?_
          refine Cd.condT rfl ?_
          refine Cd.seq fun K23 hK23 => ?_
          refine Cd.plain [(0, false)] rfl rfl ?_
          refine Jp.y 4 rfl (want_all rfl) rfl rfl Kp.true (Y.assign rfl rfl) ?_
          refine Jp.done hK23 ?_
          refine Cd.ret [] rfl (res1 rfl rfl) trivial ⟨rfl, rfl⟩
      · skip
        try simp only [decide_eq_false_iff_not, decide_eq_true_eq, Int.not_lt, Int.not_le, Bool.not_eq_false, Bool.not_eq_true, Bool.not_true, Bool.not_false, Bool.not_eq_true', Bool.not_eq_false', beq_eq_false_iff_ne, ne_eq, beq_iff_eq, bne_iff_ne, bne_eq_false_iff_eq, Classical.not_not] at g61
        first
        | done
        | (first
           | omega
           | (simp at g61; done)
           | (simp at g61; omega))
        | skip
          refine Jp.y 62 rfl (want_as rfl rfl rfl rfl) rfl rfl Kp.true (Y.move rfl rfl) ?_
          refine Jp.y 63 rfl (want_as rfl rfl rfl rfl) rfl rfl Kp.true (Y.eql rfl rfl rfl) ?_
          refine Jp.y 64 rfl (want_as rfl rfl rfl rfl) rfl rfl Kp.true (Y.move rfl rfl) ?_
          refine Jp.split 64 rfl (fun g64 => ?_) (fun g64 => ?_)
          · skip
            try simp only [decide_eq_false_iff_not, decide_eq_true_eq, Int.not_lt, Int.not_le, Bool.not_eq_false, Bool.not_eq_true, Bool.not_true, Bool.not_false, Bool.not_eq_true', Bool.not_eq_false', beq_eq_false_iff_ne, ne_eq, beq_iff_eq, bne_iff_ne, bne_eq_false_iff_eq, Classical.not_not] at g64
            first
            | done
            | (first
               | omega
               | (simp at g64; done)
               | (simp at g64; omega))
            | skip
              refine Jp.y 65 rfl (want_as rfl rfl rfl rfl) rfl rfl Kp.true (Y.move rfl rfl) ?_
              refine Jp.y 66 rfl (want_as rfl rfl rfl rfl) rfl rfl Kp.true (Y.move rfl rfl) ?_
              refine Jp.y 67 rfl (want_as rfl rfl rfl rfl) rfl rfl Kp.true (Y.move rfl rfl) ?_
              refine Jp.y 68 rfl (want_as rfl rfl rfl rfl) rfl rfl Kp.true (Y.move rfl rfl) ?_
              refine Jp.y 69 rfl (want_as rfl rfl rfl rfl) rfl rfl Kp.true (Y.indexAddr rfl rfl rfl Try.underlying56 Try.sizeOf26 (by omega) (by omega) rfl) ?_
              refine Jp.y 70 rfl (want_as rfl rfl rfl rfl) rfl rfl Kp.true (Y.loadR rfl Try.isAgg26 rfl hc2) ?_
              refine Jp.y 71 rfl (want_as rfl rfl rfl rfl) rfl rfl Kp.true (Y.bits rfl rfl rfl rfl) ?_
              refine Jp.y 72 rfl (want_as rfl rfl rfl rfl) rfl rfl Kp.true (Y.conv_ rfl rfl Try.underlying26 Try.underlying3 (by first | exact wrap_i64 (by omega) (by omega) | rfl)) ?_
              refine Jp.y 73 rfl (want_as rfl rfl rfl rfl) rfl rfl Kp.true (Y.add_ rfl rfl rfl (by first | exact wrap_i64 (by omega) (by omega) | rfl)) ?_
              refine Jp.y 74 rfl (want_as rfl rfl rfl rfl) rfl rfl Kp.true (Y.add_ rfl rfl rfl (by first | exact wrap_i64 (by omega) (by omega) | rfl)) ?_
              refine Jp.y 75 rfl (want_as rfl rfl rfl rfl) rfl rfl Kp.true (Y.neq rfl rfl rfl) ?_
              refine Jp.y 76 rfl (want_as rfl rfl rfl rfl) rfl rfl Kp.true (Y.pickT rfl rfl rfl) ?_
              refine Jp.y 77 rfl (want_all rfl) rfl rfl Kp.true (Y.pickF rfl rfl rfl) ?_
              refine Jp.y 78 rfl (want_all rfl) rfl rfl Kp.true (Y.move rfl rfl) ?_
              refine Jp.split 78 rfl (fun g78 => ?_) (fun g78 => ?_)
              · skip
                try simp only [decide_eq_false_iff_not, decide_eq_true_eq, Int.not_lt, Int.not_le, Bool.not_eq_false, Bool.not_eq_true, Bool.not_true, Bool.not_false, Bool.not_eq_true', Bool.not_eq_false', beq_eq_false_iff_ne, ne_eq, beq_iff_eq, bne_iff_ne, bne_eq_false_iff_eq, Classical.not_not] at g78
                first
                | done
                | (first
                   | omega
                   | (simp at g78; done)
                   | (simp at g78; omega))
                | skip
                  refine Jp.skip 79 rfl (want_as rfl rfl rfl rfl) rfl rfl Kp.true ?_
                  refine Jp.skip 80 rfl (want_as rfl rfl rfl rfl) rfl rfl Kp.true ?_
                  refine Jp.skip 81 rfl (want_as rfl rfl rfl rfl) rfl rfl Kp.true ?_
                  refine Jp.skip 82 rfl (want_un rfl rfl rfl) rfl rfl Kp.true ?_
                  refine Jp.skip 83 rfl (want_un rfl rfl rfl) rfl rfl Kp.true ?_
                  refine Jp.skip 84 rfl (want_un rfl rfl rfl) rfl rfl Kp.true ?_
                  refine Jp.skip 85 rfl (want_un rfl rfl rfl) rfl rfl Kp.true ?_
                  refine Jp.skip 86 rfl (want_un rfl rfl rfl) rfl rfl Kp.true ?_
                  refine Jp.skip 87 rfl (want_un rfl rfl rfl) rfl rfl Kp.true ?_
                  refine Jp.skip 88 rfl (want_un rfl rfl rfl) rfl rfl Kp.true ?_
                  refine Jp.skip 89 rfl (want_un rfl rfl rfl) rfl rfl Kp.true ?_
                  refine Jp.skip 90 rfl (want_un rfl rfl rfl) rfl rfl Kp.true ?_
                  refine Jp.skip 91 rfl (want_un rfl rfl rfl) rfl rfl Kp.true ?_
                  refine Jp.skip 92 rfl (want_un rfl rfl rfl) rfl rfl Kp.true ?_
                  refine Jp.skip 93 rfl (want_as rfl rfl rfl rfl) rfl rfl Kp.true ?_
                  refine Jp.y 94 rfl (want_all rfl) rfl rfl Kp.true (Y.pickT rfl rfl rfl) ?_
                  refine Jp.done hK19 ?_
                  refine Cd.condT rfl ?_
                  refine Cd.seq fun K24 hK24 => ?_
                  refine Cd.plain [(0, false)] rfl rfl ?_
                  refine Jp.y 4 rfl (want_all rfl) rfl rfl Kp.true (Y.assign rfl rfl) ?_
                  refine Jp.done hK24 ?_
                  refine Cd.ret [] rfl (res1 rfl rfl) trivial ⟨rfl, rfl⟩
              · skip
                try simp only [decide_eq_false_iff_not, decide_eq_true_eq, Int.not_lt, Int.not_le, Bool.not_eq_false, Bool.not_eq_true, Bool.not_true, Bool.not_false, Bool.not_eq_true', Bool.not_eq_false', beq_eq_false_iff_ne, ne_eq, beq_iff_eq, bne_iff_ne, bne_eq_false_iff_eq, Classical.not_not] at g78
                first
                | done
                | (first
                   | omega
                   | (simp at g78; done)
                   | (simp at g78; omega))
                | skip
                  refine Jp.y 79 rfl (want_as rfl rfl rfl rfl) rfl rfl Kp.true (Y.move rfl rfl) ?_
                  refine Jp.y 80 rfl (want_as rfl rfl rfl rfl) rfl rfl Kp.true (Y.neq rfl rfl rfl) ?_
                  refine Jp.y 81 rfl (want_as rfl rfl rfl rfl) rfl rfl Kp.true (Y.move rfl rfl) ?_
                  refine Jp.split 81 rfl (fun g81 => ?_) (fun g81 => ?_)
                  · skip
                    try simp only [decide_eq_false_iff_not, decide_eq_true_eq, Int.not_lt, Int.not_le, Bool.not_eq_false, Bool.not_eq_true, Bool.not_true, Bool.not_false, Bool.not_eq_true', Bool.not_eq_false', beq_eq_false_iff_ne, ne_eq, beq_iff_eq, bne_iff_ne, bne_eq_false_iff_eq, Classical.not_not] at g81
                    first
                    | done
                    | (first
                       | omega
                       | (simp at g81; done)
                       | (simp at g81; omega))
                    | skip
                      refine Jp.y 82 rfl (want_as rfl rfl rfl rfl) rfl rfl Kp.true (Y.move rfl rfl) ?_
                      refine Jp.y 83 rfl (want_as rfl rfl rfl rfl) rfl rfl Kp.true (Y.move rfl rfl) ?_
                      refine Jp.y 84 rfl (want_as rfl rfl rfl rfl) rfl rfl Kp.true (Y.neq rfl rfl rfl) ?_
                      refine Jp.y 85 rfl (want_as rfl rfl rfl rfl) rfl rfl Kp.true (Y.move rfl rfl) ?_
                      refine Jp.split 85 rfl (fun g85 => ?_) (fun g85 => ?_)
                      · skip
                        try simp only [decide_eq_false_iff_not, decide_eq_true_eq, Int.not_lt, Int.not_le, Bool.not_eq_false, Bool.not_eq_true, Bool.not_true, Bool.not_false, Bool.not_eq_true', Bool.not_eq_false', beq_eq_false_iff_ne, ne_eq, beq_iff_eq, bne_iff_ne, bne_eq_false_iff_eq, Classical.not_not] at g85
                        first
                        | done
                        | (first
                           | omega
                           | (simp at g85; done)
                           | (simp at g85; omega))
                        | skip
                          refine Jp.skip 86 rfl (want_as rfl rfl rfl rfl) rfl rfl Kp.true ?_
                          refine Jp.skip 87 rfl (want_as rfl rfl rfl rfl) rfl rfl Kp.true ?_
                          refine Jp.skip 88 rfl (want_as rfl rfl rfl rfl) rfl rfl Kp.true ?_
                          refine Jp.skip 89 rfl (want_un rfl rfl rfl) rfl rfl Kp.true ?_
                          refine Jp.skip 90 rfl (want_un rfl rfl rfl) rfl rfl Kp.true ?_
                          refine Jp.skip 91 rfl (want_as rfl rfl rfl rfl) rfl rfl Kp.true ?_
                          refine Jp.y 92 rfl (want_as rfl rfl rfl rfl) rfl rfl Kp.true (Y.pickT rfl rfl rfl) ?_
                          refine Jp.y 93 rfl (want_as rfl rfl rfl rfl) rfl rfl Kp.true (Y.pickT rfl rfl rfl) ?_
                          refine Jp.y 94 rfl (want_all rfl) rfl rfl Kp.true (Y.pickF rfl rfl rfl) ?_
                          refine Jp.done hK19 ?_
                          refine Cd.condT rfl ?_
                          refine Cd.seq fun K25 hK25 => ?_
                          refine Cd.plain [(0, false)] rfl rfl ?_
                          refine Jp.y 4 rfl (want_all rfl) rfl rfl Kp.true (Y.assign rfl rfl) ?_
                          refine Jp.done hK25 ?_
                          refine Cd.ret [] rfl (res1 rfl rfl) trivial ⟨rfl, rfl⟩
                      · skip
                        try simp only [decide_eq_false_iff_not, decide_eq_true_eq, Int.not_lt, Int.not_le, Bool.not_eq_false, Bool.not_eq_true, Bool.not_true, Bool.not_false, Bool.not_eq_true', Bool.not_eq_false', beq_eq_false_iff_ne, ne_eq, beq_iff_eq, bne_iff_ne, bne_eq_false_iff_eq, Classical.not_not] at g85
                        first
                        | done
                        | (first
                           | omega
                           | (simp at g85; done)
                           | (simp at g85; omega))
                        | skip
                          refine Jp.y 86 rfl (want_as rfl rfl rfl rfl) rfl rfl Kp.true (Y.move rfl rfl) ?_
                          refine Jp.y 87 rfl (want_as rfl rfl rfl rfl) rfl rfl Kp.true (Y.neq rfl rfl rfl) ?_
                          refine Jp.y 88 rfl (want_as rfl rfl rfl rfl) rfl rfl Kp.true (Y.move rfl rfl) ?_
                          refine Jp.split 88 rfl (fun g88 => ?_) (fun g88 => ?_)
                          · skip
                            try simp only [decide_eq_false_iff_not, decide_eq_true_eq, Int.not_lt, Int.not_le, Bool.not_eq_false, Bool.not_eq_true, Bool.not_true, Bool.not_false, Bool.not_eq_true', Bool.not_eq_false', beq_eq_false_iff_ne, ne_eq, beq_iff_eq, bne_iff_ne, bne_eq_false_iff_eq, Classical.not_not] at g88
                            first
                            | done
                            | (first
                               | omega
                               | (simp at g88; done)
                               | (simp at g88; omega))
                            | skip
                              refine Jp.y 89 rfl (want_as rfl rfl rfl rfl) rfl rfl Kp.true (Y.move rfl rfl) ?_
                              refine Jp.y 90 rfl (want_as rfl rfl rfl rfl) rfl rfl Kp.true (Y.neq rfl rfl rfl) ?_
                              refine Jp.y 91 rfl (want_as rfl rfl rfl rfl) rfl rfl Kp.true (Y.pickT rfl rfl rfl) ?_
                              refine Jp.y 92 rfl (want_as rfl rfl rfl rfl) rfl rfl Kp.true (Y.pickF rfl rfl rfl) ?_
                              refine Jp.y 93 rfl (want_as rfl rfl rfl rfl) rfl rfl Kp.true (Y.pickT rfl rfl rfl) ?_
                              refine Jp.y 94 rfl (want_all rfl) rfl rfl Kp.true (Y.pickF rfl rfl rfl) ?_
                              refine Jp.done hK19 ?_
                              refine Cd.cond rfl (fun g94 => ?_) (fun g94 => ?_)
                              · skip
                                try simp only [decide_eq_false_iff_not, decide_eq_true_eq, Int.not_lt, Int.not_le, Bool.not_eq_false, Bool.not_eq_true, Bool.not_true, Bool.not_false, Bool.not_eq_true', Bool.not_eq_false', beq_eq_false_iff_ne, ne_eq, beq_iff_eq, bne_iff_ne, bne_eq_false_iff_eq, Classical.not_not] at g94
                                first
                                | done
                                | (first
                                   | omega
                                   | (simp at g94; done)
                                   | (simp at g94; omega))
                                | skip
                                  refine Cd.seq fun K26 hK26 => ?_
                                  refine Cd.plain [(0, false)] rfl rfl ?_
                                  refine Jp.y 4 rfl (want_all rfl) rfl rfl Kp.true (Y.assign rfl rfl) ?_
                                  refine Jp.done hK26 ?_
                                  refine Cd.ret [] rfl (res1 rfl rfl) trivial ⟨rfl, rfl⟩
                              · skip
                                try simp only [decide_eq_false_iff_not, decide_eq_true_eq, Int.not_lt, Int.not_le, Bool.not_eq_false, Bool.not_eq_true, Bool.not_true, Bool.not_false, Bool.not_eq_true', Bool.not_eq_false', beq_eq_false_iff_ne, ne_eq, beq_iff_eq, bne_iff_ne, bne_eq_false_iff_eq, Classical.not_not] at g94
                                first
                                | done
                                | (first
                                   | omega
                                   | (simp at g94; done)
                                   | (simp at g94; omega))
                                | skip
                                  refine Cd.over rfl hK14 ?_
                                  refine Cd.plain [(0, false), (1, false), (2, false)] rfl rfl ?_
                                  refine Jp.y 34 rfl (want_all rfl) rfl rfl Kp.true (Y.move rfl rfl) ?_
                                  refine Jp.y 35 rfl (want_all rfl) rfl rfl Kp.true (Y.add_ rfl rfl rfl (by first | exact wrap_i64 (by omega) (by omega) | rfl)) ?_
                                  refine Jp.y 7 rfl (want_all rfl) rfl rfl Kp.true (Y.assign rfl rfl) ?_
                                  refine Jp.again hLa ⟨i + 1, M2, _⟩ ⟨hi, by rw [hb2]; exact ok2, by show M2.pages.length ≤ bn; omega, hr⟩ (by show xs.length - (i + 1) < xs.length - i; omega) rfl ⟨rfl, rfl, rfl, rfl, trivial⟩ ⟨rfl, trivial⟩
                          · skip
                            try simp only [decide_eq_false_iff_not, decide_eq_true_eq, Int.not_lt, Int.not_le, Bool.not_eq_false, Bool.not_eq_true, Bool.not_true, Bool.not_false, Bool.not_eq_true', Bool.not_eq_false', beq_eq_false_iff_ne, ne_eq, beq_iff_eq, bne_iff_ne, bne_eq_false_iff_eq, Classical.not_not] at g88
                            first
                            | done
                            | (first
                               | omega
                               | (simp at g88; done)
                               | (simp at g88; omega))
                            | skip
                              refine Jp.skip 89 rfl (want_as rfl rfl rfl rfl) rfl rfl Kp.true ?_
                              refine Jp.skip 90 rfl (want_as rfl rfl rfl rfl) rfl rfl Kp.true ?_
                              refine Jp.y 91 rfl (want_as rfl rfl rfl rfl) rfl rfl Kp.true (Y.pickF rfl rfl rfl) ?_
                              refine Jp.y 92 rfl (want_as rfl rfl rfl rfl) rfl rfl Kp.true (Y.pickF rfl rfl rfl) ?_
                              refine Jp.y 93 rfl (want_as rfl rfl rfl rfl) rfl rfl Kp.true (Y.pickT rfl rfl rfl) ?_
                              refine Jp.y 94 rfl (want_all rfl) rfl rfl Kp.true (Y.pickF rfl rfl rfl) ?_
                              refine Jp.done hK19 ?_
                              refine Cd.condF rfl ?_
                              refine Cd.over rfl hK14 ?_
                              refine Cd.plain [(0, false), (1, false), (2, false)] rfl rfl ?_
                              refine Jp.y 34 rfl (want_all rfl) rfl rfl Kp.true (Y.move rfl rfl) ?_
                              refine Jp.y 35 rfl (want_all rfl) rfl rfl Kp.true (Y.add_ rfl rfl rfl (by first | exact wrap_i64 (by omega) (by omega) | rfl)) ?_
                              refine Jp.y 7 rfl (want_all rfl) rfl rfl Kp.true (Y.assign rfl rfl) ?_
                              refine Jp.again hLa ⟨i + 1, M2, _⟩ ⟨hi, by rw [hb2]; exact ok2, by show M2.pages.length ≤ bn; omega, hr⟩ (by show xs.length - (i + 1) < xs.length - i; omega) rfl ⟨rfl, rfl, rfl, rfl, trivial⟩ ⟨rfl, trivial⟩
                  · skip
                    try simp only [decide_eq_false_iff_not, decide_eq_true_eq, Int.not_lt, Int.not_le, Bool.not_eq_false, Bool.not_eq_true, Bool.not_true, Bool.not_false, Bool.not_eq_true', Bool.not_eq_false', beq_eq_false_iff_ne, ne_eq, beq_iff_eq, bne_iff_ne, bne_eq_false_iff_eq, Classical.not_not] at g81
                    first
                    | done
                    | (first
                       | omega
                       | (simp at g81; done)
                       | (simp at g81; omega))
                    | skip
                      refine Jp.skip 82 rfl (want_as rfl rfl rfl rfl) rfl rfl Kp.true ?_
                      refine Jp.skip 83 rfl (want_as rfl rfl rfl rfl) rfl rfl Kp.true ?_
                      refine Jp.skip 84 rfl (want_as rfl rfl rfl rfl) rfl rfl Kp.true ?_
                      refine Jp.skip 85 rfl (want_as rfl rfl rfl rfl) rfl rfl Kp.true ?_
                      refine Jp.skip 86 rfl (want_un rfl rfl rfl) rfl rfl Kp.true ?_
                      refine Jp.skip 87 rfl (want_un rfl rfl rfl) rfl rfl Kp.true ?_
                      refine Jp.skip 88 rfl (want_un rfl rfl rfl) rfl rfl Kp.true ?_
                      refine Jp.skip 89 rfl (want_un rfl rfl rfl) rfl rfl Kp.true ?_
                      refine Jp.skip 90 rfl (want_un rfl rfl rfl) rfl rfl Kp.true ?_
                      refine Jp.skip 91 rfl (want_un rfl rfl rfl) rfl rfl Kp.true ?_
                      refine Jp.skip 92 rfl (want_as rfl rfl rfl rfl) rfl rfl Kp.true ?_
                      refine Jp.y 93 rfl (want_as rfl rfl rfl rfl) rfl rfl Kp.true (Y.pickF rfl rfl rfl) ?_
                      refine Jp.y 94 rfl (want_all rfl) rfl rfl Kp.true (Y.pickF rfl rfl rfl) ?_
                      refine Jp.done hK19 ?_
                      refine Cd.condF rfl ?_
                      refine Cd.over rfl hK14 ?_
                      refine Cd.plain [(0, false), (1, false), (2, false)] rfl rfl ?_
                      refine Jp.y 34 rfl (want_all rfl) rfl rfl Kp.true (Y.move rfl rfl) ?_
                      refine Jp.y 35 rfl (want_all rfl) rfl rfl Kp.true (Y.add_ rfl rfl rfl (by first | exact wrap_i64 (by omega) (by omega) | rfl)) ?_
                      refine Jp.y 7 rfl (want_all rfl) rfl rfl Kp.true (Y.assign rfl rfl) ?_
                      refine Jp.again hLa ⟨i + 1, M2, _⟩ ⟨hi, by rw [hb2]; exact ok2, by show M2.pages.length ≤ bn; omega, hr⟩ (by show xs.length - (i + 1) < xs.length - i; omega) rfl ⟨rfl, rfl, rfl, rfl, trivial⟩ ⟨rfl, trivial⟩
          · skip
            try simp only [decide_eq_false_iff_not, decide_eq_true_eq, Int.not_lt, Int.not_le, Bool.not_eq_false, Bool.not_eq_true, Bool.not_true, Bool.not_false, Bool.not_eq_true', Bool.not_eq_false', beq_eq_false_iff_ne, ne_eq, beq_iff_eq, bne_iff_ne, bne_eq_false_iff_eq, Classical.not_not] at g64
            first
            | done
            | (first
               | omega
               | (simp at g64; done)
               | (simp at g64; omega))
            | skip
              refine Jp.skip 65 rfl (want_as rfl rfl rfl rfl) rfl rfl Kp.true ?_
              refine Jp.skip 66 rfl (want_as rfl rfl rfl rfl) rfl rfl Kp.true ?_
              refine Jp.skip 67 rfl (want_as rfl rfl rfl rfl) rfl rfl Kp.true ?_
              refine Jp.skip 68 rfl (want_as rfl rfl rfl rfl) rfl rfl Kp.true ?_
              refine Jp.skip 69 rfl (want_as rfl rfl rfl rfl) rfl rfl Kp.true ?_
              refine Jp.skip 70 rfl (want_as rfl rfl rfl rfl) rfl rfl Kp.true ?_
              refine Jp.skip 71 rfl (want_as rfl rfl rfl rfl) rfl rfl Kp.true ?_
              refine Jp.skip 72 rfl (want_as rfl rfl rfl rfl) rfl rfl Kp.true ?_
              refine Jp.skip 73 rfl (want_as rfl rfl rfl rfl) rfl rfl Kp.true ?_
              refine Jp.skip 74 rfl (want_as rfl rfl rfl rfl) rfl rfl Kp.true ?_
              refine Jp.skip 75 rfl (want_as rfl rfl rfl rfl) rfl rfl Kp.true ?_
              refine Jp.y 76 rfl (want_as rfl rfl rfl rfl) rfl rfl Kp.true (Y.pickF rfl rfl rfl) ?_
              refine Jp.y 77 rfl (want_all rfl) rfl rfl Kp.true (Y.pickF rfl rfl rfl) ?_
              refine Jp.y 78 rfl (want_all rfl) rfl rfl Kp.true (Y.move rfl rfl) ?_
              refine Jp.y 79 rfl (want_as rfl rfl rfl rfl) rfl rfl Kp.true (Y.move rfl rfl) ?_
              refine Jp.y 80 rfl (want_as rfl rfl rfl rfl) rfl rfl Kp.true (Y.neq rfl rfl rfl) ?_
              refine Jp.y 81 rfl (want_as rfl rfl rfl rfl) rfl rfl Kp.true (Y.move rfl rfl) ?_
              refine Jp.split 81 rfl (fun g81 => ?_) (fun g81 => ?_)
              · skip
                try simp only [decide_eq_false_iff_not, decide_eq_true_eq, Int.not_lt, Int.not_le, Bool.not_eq_false, Bool.not_eq_true, Bool.not_true, Bool.not_false, Bool.not_eq_true', Bool.not_eq_false', beq_eq_false_iff_ne, ne_eq, beq_iff_eq, bne_iff_ne, bne_eq_false_iff_eq, Classical.not_not] at g81
                first
                | done
                | (first
                   | omega
                   | (simp at g81; done)
                   | (simp at g81; omega))
                | skip
                  refine Jp.y 82 rfl (want_as rfl rfl rfl rfl) rfl rfl Kp.true (Y.move rfl rfl) ?_
                  refine Jp.y 83 rfl (want_as rfl rfl rfl rfl) rfl rfl Kp.true (Y.move rfl rfl) ?_
                  refine Jp.y 84 rfl (want_as rfl rfl rfl rfl) rfl rfl Kp.true (Y.neq rfl rfl rfl) ?_
                  refine Jp.y 85 rfl (want_as rfl rfl rfl rfl) rfl rfl Kp.true (Y.move rfl rfl) ?_
                  refine Jp.split 85 rfl (fun g85 => ?_) (fun g85 => ?_)
                  · skip
                    try simp only [decide_eq_false_iff_not, decide_eq_true_eq, Int.not_lt, Int.not_le, Bool.not_eq_false, Bool.not_eq_true, Bool.not_true, Bool.not_false, Bool.not_eq_true', Bool.not_eq_false', beq_eq_false_iff_ne, ne_eq, beq_iff_eq, bne_iff_ne, bne_eq_false_iff_eq, Classical.not_not] at g85
                    first
                    | done
                    | (first
                       | omega
                       | (simp at g85; done)
                       | (simp at g85; omega))
                    | skip
                      refine Jp.skip 86 rfl (want_as rfl rfl rfl rfl) rfl rfl Kp.true ?_
                      refine Jp.skip 87 rfl (want_as rfl rfl rfl rfl) rfl rfl Kp.true ?_
                      refine Jp.skip 88 rfl (want_as rfl rfl rfl rfl) rfl rfl Kp.true ?_
                      refine Jp.skip 89 rfl (want_un rfl rfl rfl) rfl rfl Kp.true ?_
                      refine Jp.skip 90 rfl (want_un rfl rfl rfl) rfl rfl Kp.true ?_
                      refine Jp.skip 91 rfl (want_as rfl rfl rfl rfl) rfl rfl Kp.true ?_
                      refine Jp.y 92 rfl (want_as rfl rfl rfl rfl) rfl rfl Kp.true (Y.pickT rfl rfl rfl) ?_
                      refine Jp.y 93 rfl (want_as rfl rfl rfl rfl) rfl rfl Kp.true (Y.pickT rfl rfl rfl) ?_
                      refine Jp.y 94 rfl (want_all rfl) rfl rfl Kp.true (Y.pickF rfl rfl rfl) ?_
                      refine Jp.done hK19 ?_
                      refine Cd.condT rfl ?_
                      refine Cd.seq fun K27 hK27 => ?_
                      refine Cd.plain [(0, false)] rfl rfl ?_
                      refine Jp.y 4 rfl (want_all rfl) rfl rfl Kp.true (Y.assign rfl rfl) ?_
                      refine Jp.done hK27 ?_
                      refine Cd.ret [] rfl (res1 rfl rfl) trivial ⟨rfl, rfl⟩
                  · skip
                    try simp only [decide_eq_false_iff_not, decide_eq_true_eq, Int.not_lt, Int.not_le, Bool.not_eq_false, Bool.not_eq_true, Bool.not_true, Bool.not_false, Bool.not_eq_true', Bool.not_eq_false', beq_eq_false_iff_ne, ne_eq, beq_iff_eq, bne_iff_ne, bne_eq_false_iff_eq, Classical.not_not] at g85
                    first
                    | done
                    | (first
                       | omega
                       | (simp at g85; done)
                       | (simp at g85; omega))
                    | skip
                      refine Jp.y 86 rfl (want_as rfl rfl rfl rfl) rfl rfl Kp.true (Y.move rfl rfl) ?_
                      refine Jp.y 87 rfl (want_as rfl rfl rfl rfl) rfl rfl Kp.true (Y.neq rfl rfl rfl) ?_
                      refine Jp.y 88 rfl (want_as rfl rfl rfl rfl) rfl rfl Kp.true (Y.move rfl rfl) ?_
                      refine Jp.split 88 rfl (fun g88 => ?_) (fun g88 => ?_)
                      · skip
                        try simp only [decide_eq_false_iff_not, decide_eq_true_eq, Int.not_lt, Int.not_le, Bool.not_eq_false, Bool.not_eq_true, Bool.not_true, Bool.not_false, Bool.not_eq_true', Bool.not_eq_false', beq_eq_false_iff_ne, ne_eq, beq_iff_eq, bne_iff_ne, bne_eq_false_iff_eq, Classical.not_not] at g88
                        first
                        | done
                        | (first
                           | omega
                           | (simp at g88; done)
                           | (simp at g88; omega))
                        | skip
                          refine Jp.y 89 rfl (want_as rfl rfl rfl rfl) rfl rfl Kp.true (Y.move rfl rfl) ?_
                          refine Jp.y 90 rfl (want_as rfl rfl rfl rfl) rfl rfl Kp.true (Y.neq rfl rfl rfl) ?_
                          refine Jp.y 91 rfl (want_as rfl rfl rfl rfl) rfl rfl Kp.true (Y.pickT rfl rfl rfl) ?_
                          refine Jp.y 92 rfl (want_as rfl rfl rfl rfl) rfl rfl Kp.true (Y.pickF rfl rfl rfl) ?_
                          refine Jp.y 93 rfl (want_as rfl rfl rfl rfl) rfl rfl Kp.true (Y.pickT rfl rfl rfl) ?_
                          refine Jp.y 94 rfl (want_all rfl) rfl rfl Kp.true (Y.pickF rfl rfl rfl) ?_
                          refine Jp.done hK19 ?_
                          refine Cd.cond rfl (fun g94 => ?_) (fun g94 => ?_)
                          · skip
                            try simp only [decide_eq_false_iff_not, decide_eq_true_eq, Int.not_lt, Int.not_le, Bool.not_eq_false, Bool.not_eq_true, Bool.not_true, Bool.not_false, Bool.not_eq_true', Bool.not_eq_false', beq_eq_false_iff_ne, ne_eq, beq_iff_eq, bne_iff_ne, bne_eq_false_iff_eq, Classical.not_not] at g94
                            first
                            | done
                            | (first
                               | omega
                               | (simp at g94; done)
                               | (simp at g94; omega))
                            | skip
                              refine Cd.seq fun K28 hK28 => ?_
                              refine Cd.plain [(0, false)] rfl rfl ?_
                              refine Jp.y 4 rfl (want_all rfl) rfl rfl Kp.true (Y.assign rfl rfl) ?_
                              refine Jp.done hK28 ?_
                              refine Cd.ret [] rfl (res1 rfl rfl) trivial ⟨rfl, rfl⟩
                          · skip
                            try simp only [decide_eq_false_iff_not, decide_eq_true_eq, Int.not_lt, Int.not_le, Bool.not_eq_false, Bool.not_eq_true, Bool.not_true, Bool.not_false, Bool.not_eq_true', Bool.not_eq_false', beq_eq_false_iff_ne, ne_eq, beq_iff_eq, bne_iff_ne, bne_eq_false_iff_eq, Classical.not_not] at g94
                            first
                            | done
                            | (first
                               | omega
                               | (simp at g94; done)
                               | (simp at g94; omega))
                            | skip
                              refine Cd.over rfl hK14 ?_
                              refine Cd.plain [(0, false), (1, false), (2, false)] rfl rfl ?_
                              refine Jp.y 34 rfl (want_all rfl) rfl rfl Kp.true (Y.move rfl rfl) ?_
                              refine Jp.y 35 rfl (want_all rfl) rfl rfl Kp.true (Y.add_ rfl rfl rfl (by first | exact wrap_i64 (by omega) (by omega) | rfl)) ?_
                              refine Jp.y 7 rfl (want_all rfl) rfl rfl Kp.true (Y.assign rfl rfl) ?_
                              refine Jp.again hLa ⟨i + 1, M2, _⟩ ⟨hi, by rw [hb2]; exact ok2, by show M2.pages.length ≤ bn; omega, hr⟩ (by show xs.length - (i + 1) < xs.length - i; omega) rfl ⟨rfl, rfl, rfl, rfl, trivial⟩ ⟨rfl, trivial⟩
                      · skip
                        try simp only [decide_eq_false_iff_not, decide_eq_true_eq, Int.not_lt, Int.not_le, Bool.not_eq_false, Bool.not_eq_true, Bool.not_true, Bool.not_false, Bool.not_eq_true', Bool.not_eq_false', beq_eq_false_iff_ne, ne_eq, beq_iff_eq, bne_iff_ne, bne_eq_false_iff_eq, Classical.not_not] at g88
                        first
                        | done
                        | (first
                           | omega
                           | (simp at g88; done)
                           | (simp at g88; omega))
                        | skip
                          refine Jp.skip 89 rfl (want_as rfl rfl rfl rfl) rfl rfl Kp.true ?_
                          refine Jp.skip 90 rfl (want_as rfl rfl rfl rfl) rfl rfl Kp.true ?_
                          refine Jp.y 91 rfl (want_as rfl rfl rfl rfl) rfl rfl Kp.true (Y.pickF rfl rfl rfl) ?_
                          refine Jp.y 92 rfl (want_as rfl rfl rfl rfl) rfl rfl Kp.true (Y.pickF rfl rfl rfl) ?_
                          refine Jp.y 93 rfl (want_as rfl rfl rfl rfl) rfl rfl Kp.true (Y.pickT rfl rfl rfl) ?_
                          refine Jp.y 94 rfl (want_all rfl) rfl rfl Kp.true (Y.pickF rfl rfl rfl) ?_
                          refine Jp.done hK19 ?_
                          refine Cd.condF rfl ?_
                          refine Cd.over rfl hK14 ?_
                          refine Cd.plain [(0, false), (1, false), (2, false)] rfl rfl ?_
                          refine Jp.y 34 rfl (want_all rfl) rfl rfl Kp.true (Y.move rfl rfl) ?_
                          refine Jp.y 35 rfl (want_all rfl) rfl rfl Kp.true (Y.add_ rfl rfl rfl (by first | exact wrap_i64 (by omega) (by omega) | rfl)) ?_
                          refine Jp.y 7 rfl (want_all rfl) rfl rfl Kp.true (Y.assign rfl rfl) ?_
                          refine Jp.again hLa ⟨i + 1, M2, _⟩ ⟨hi, by rw [hb2]; exact ok2, by show M2.pages.length ≤ bn; omega, hr⟩ (by show xs.length - (i + 1) < xs.length - i; omega) rfl ⟨rfl, rfl, rfl, rfl, trivial⟩ ⟨rfl, trivial⟩
              · skip
                try simp only [decide_eq_false_iff_not, decide_eq_true_eq, Int.not_lt, Int.not_le, Bool.not_eq_false, Bool.not_eq_true, Bool.not_true, Bool.not_false, Bool.not_eq_true', Bool.not_eq_false', beq_eq_false_iff_ne, ne_eq, beq_iff_eq, bne_iff_ne, bne_eq_false_iff_eq, Classical.not_not] at g81
                first
                | done
                | (first
                   | omega
                   | (simp at g81; done)
                   | (simp at g81; omega))
                | skip
                  refine Jp.skip 82 rfl (want_as rfl rfl rfl rfl) rfl rfl Kp.true ?_
                  refine Jp.skip 83 rfl (want_as rfl rfl rfl rfl) rfl rfl Kp.true ?_
                  refine Jp.skip 84 rfl (want_as rfl rfl rfl rfl) rfl rfl Kp.true ?_
                  refine Jp.skip 85 rfl (want_as rfl rfl rfl rfl) rfl rfl Kp.true ?_
                  refine Jp.skip 86 rfl (want_un rfl rfl rfl) rfl rfl Kp.true ?_
                  refine Jp.skip 87 rfl (want_un rfl rfl rfl) rfl rfl Kp.true ?_
                  refine Jp.skip 88 rfl (want_un rfl rfl rfl) rfl rfl Kp.true ?_
                  refine Jp.skip 89 rfl (want_un rfl rfl rfl) rfl rfl Kp.true ?_
                  refine Jp.skip 90 rfl (want_un rfl rfl rfl) rfl rfl Kp.true ?_
                  refine Jp.skip 91 rfl (want_un rfl rfl rfl) rfl rfl Kp.true ?_
                  refine Jp.skip 92 rfl (want_as rfl rfl rfl rfl) rfl rfl Kp.true ?_
                  refine Jp.y 93 rfl (want_as rfl rfl rfl rfl) rfl rfl Kp.true (Y.pickF rfl rfl rfl) ?_
                  refine Jp.y 94 rfl (want_all rfl) rfl rfl Kp.true (Y.pickF rfl rfl rfl) ?_
                  refine Jp.done hK19 ?_
                  refine Cd.condF rfl ?_
                  refine Cd.over rfl hK14 ?_
                  refine Cd.plain [(0, false), (1, false), (2, false)] rfl rfl ?_
                  refine Jp.y 34 rfl (want_all rfl) rfl rfl Kp.true (Y.move rfl rfl) ?_
                  refine Jp.y 35 rfl (want_all rfl) rfl rfl Kp.true (Y.add_ rfl rfl rfl (by first | exact wrap_i64 (by omega) (by omega) | rfl)) ?_
                  refine Jp.y 7 rfl (want_all rfl) rfl rfl Kp.true (Y.assign rfl rfl) ?_
                  refine Jp.again hLa ⟨i + 1, M2, _⟩ ⟨hi, by rw [hb2]; exact ok2, by show M2.pages.length ≤ bn; omega, hr⟩ (by show xs.length - (i + 1) < xs.length - i; omega) rfl ⟨rfl, rfl, rfl, rfl, trivial⟩ ⟨rfl, trivial⟩
    · skip
      refine Jp.split 61 rfl (fun g61 => ?_) (fun g61 => ?_)
      · skip
        try simp only [decide_eq_false_iff_not, decide_eq_true_eq, Int.not_lt, Int.not_le, Bool.not_eq_false, Bool.not_eq_true, Bool.not_true, Bool.not_false, Bool.not_eq_true', Bool.not_eq_false', beq_eq_false_iff_ne, ne_eq, beq_iff_eq, bne_iff_ne, bne_eq_false_iff_eq, Classical.not_not] at g61
        first
        | done
        | (first
           | omega
           | (simp at g61; done)
           | (simp at g61; omega))
        | skip
          refine Jp.skip 62 rfl (want_as rfl rfl rfl rfl) rfl rfl Kp.true ?_
          refine Jp.skip 63 rfl (want_as rfl rfl rfl rfl) rfl rfl Kp.true ?_
          refine Jp.skip 64 rfl (want_as rfl rfl rfl rfl) rfl rfl Kp.true ?_
          refine Jp.skip 65 rfl (want_un rfl rfl rfl) rfl rfl Kp.true ?_
          refine Jp.skip 66 rfl (want_un rfl rfl rfl) rfl rfl Kp.true ?_
          refine Jp.skip 67 rfl (want_un rfl rfl rfl) rfl rfl Kp.true ?_
          refine Jp.skip 68 rfl (want_un rfl rfl rfl) rfl rfl Kp.true ?_
          refine Jp.skip 69 rfl (want_un rfl rfl rfl) rfl rfl Kp.true ?_
          refine Jp.skip 70 rfl (want_un rfl rfl rfl) rfl rfl Kp.true ?_
          refine Jp.skip 71 rfl (want_un rfl rfl rfl) rfl rfl Kp.true ?_
          refine Jp.skip 72 rfl (want_un rfl rfl rfl) rfl rfl Kp.true ?_
          refine Jp.skip 73 rfl (want_un rfl rfl rfl) rfl rfl Kp.true ?_
          refine Jp.skip 74 rfl (want_un rfl rfl rfl) rfl rfl Kp.true ?_
          refine Jp.skip 75 rfl (want_un rfl rfl rfl) rfl rfl Kp.true ?_
          refine Jp.skip 76 rfl (want_as rfl rfl rfl rfl) rfl rfl Kp.true ?_
          refine Jp.y 77 rfl (want_all rfl) rfl rfl Kp.true (Y.pickT rfl rfl rfl) ?_
          refine Jp.y 78 rfl (want_all rfl) rfl rfl Kp.true (Y.move rfl rfl) ?_
          refine Jp.skip 79 rfl (want_as rfl rfl rfl rfl) rfl rfl Kp.true ?_
          refine Jp.skip 80 rfl (want_as rfl rfl rfl rfl) rfl rfl Kp.true ?_
          refine Jp.skip 81 rfl (want_as rfl rfl rfl rfl) rfl rfl Kp.true ?_
          refine Jp.skip 82 rfl (want_un rfl rfl rfl) rfl rfl Kp.true ?_
          refine Jp.skip 83 rfl (want_un rfl rfl rfl) rfl rfl Kp.true ?_
          refine Jp.skip 84 rfl (want_un rfl rfl rfl) rfl rfl Kp.true ?_
          refine Jp.skip 85 rfl (want_un rfl rfl rfl) rfl rfl Kp.true ?_
          refine Jp.skip 86 rfl (want_un rfl rfl rfl) rfl rfl Kp.true ?_
          refine Jp.skip 87 rfl (want_un rfl rfl rfl) rfl rfl Kp.true ?_
          refine Jp.skip 88 rfl (want_un rfl rfl rfl) rfl rfl Kp.true ?_
          refine Jp.skip 89 rfl (want_un rfl rfl rfl) rfl rfl Kp.true ?_
          refine Jp.skip 90 rfl (want_un rfl rfl rfl) rfl rfl Kp.true ?_
          refine Jp.skip 91 rfl (want_un rfl rfl rfl) rfl rfl Kp.true ?_
          refine Jp.skip 92 rfl (want_un rfl rfl rfl) rfl rfl Kp.true ?_
          refine Jp.skip 93 rfl (want_as rfl rfl rfl rfl) rfl rfl Kp.true ?_
          refine Jp.y 94 rfl (want_all rfl) rfl rfl Kp.true (Y.pickT rfl rfl rfl) ?_
          refine Jp.done hK19 ?_
          refine Cd.condT rfl ?_
          refine Cd.seq fun K29 hK29 => ?_
          refine Cd.plain [(0, false)] rfl rfl ?_
          refine Jp.y 4 rfl (want_all rfl) rfl rfl Kp.true (Y.assign rfl rfl) ?_
          refine Jp.done hK29 ?_
          refine Cd.ret [] rfl (res1 rfl rfl) trivial ⟨rfl, rfl⟩
      · skip
        try simp only [decide_eq_false_iff_not, decide_eq_true_eq, Int.not_lt, Int.not_le, Bool.not_eq_false, Bool.not_eq_true, Bool.not_true, Bool.not_false, Bool.not_eq_true', Bool.not_eq_false', beq_eq_false_iff_ne, ne_eq, beq_iff_eq, bne_iff_ne, bne_eq_false_iff_eq, Classical.not_not] at g61
        first
        | done
        | (first
           | omega
           | (simp at g61; done)
           | (simp at g61; omega))
        | skip
          refine Jp.y 62 rfl (want_as rfl rfl rfl rfl) rfl rfl Kp.true (Y.move rfl rfl) ?_
          refine Jp.y 63 rfl (want_as rfl rfl rfl rfl) rfl rfl Kp.true (Y.eql rfl rfl rfl) ?_
          refine Jp.y 64 rfl (want_as rfl rfl rfl rfl) rfl rfl Kp.true (Y.move rfl rfl) ?_
          refine Jp.split 64 rfl (fun g64 => ?_) (fun g64 => ?_)
          · skip
            try simp only [decide_eq_false_iff_not, decide_eq_true_eq, Int.not_lt, Int.not_le, Bool.not_eq_false, Bool.not_eq_true, Bool.not_true, Bool.not_false, Bool.not_eq_true', Bool.not_eq_false', beq_eq_false_iff_ne, ne_eq, beq_iff_eq, bne_iff_ne, bne_eq_false_iff_eq, Classical.not_not] at g64
            first
            | done
            | (first
               | omega
               | (simp at g64; done)
               | (simp at g64; omega))
            | skip
              refine Jp.y 65 rfl (want_as rfl rfl rfl rfl) rfl rfl Kp.true (Y.move rfl rfl) ?_
              refine Jp.y 66 rfl (want_as rfl rfl rfl rfl) rfl rfl Kp.true (Y.move rfl rfl) ?_
              refine Jp.y 67 rfl (want_as rfl rfl rfl rfl) rfl rfl Kp.true (Y.move rfl rfl) ?_
              refine Jp.y 68 rfl (want_as rfl rfl rfl rfl) rfl rfl Kp.true (Y.move rfl rfl) ?_
              refine Jp.y 69 rfl (want_as rfl rfl rfl rfl) rfl rfl Kp.true (Y.indexAddr rfl rfl rfl Try.underlying56 Try.sizeOf26 (by omega) (by omega) rfl) ?_
              refine Jp.y 70 rfl (want_as rfl rfl rfl rfl) rfl rfl Kp.true (Y.loadR rfl Try.isAgg26 rfl hc2) ?_
              refine Jp.y 71 rfl (want_as rfl rfl rfl rfl) rfl rfl Kp.true (Y.bits rfl rfl rfl rfl) ?_
              refine Jp.y 72 rfl (want_as rfl rfl rfl rfl) rfl rfl Kp.true (Y.conv_ rfl rfl Try.underlying26 Try.underlying3 (by first | exact wrap_i64 (by omega) (by omega) | rfl)) ?_
              refine Jp.y 73 rfl (want_as rfl rfl rfl rfl) rfl rfl Kp.true (Y.add_ rfl rfl rfl (by first | exact wrap_i64 (by omega) (by omega) | rfl)) ?_
              refine Jp.y 74 rfl (want_as rfl rfl rfl rfl) rfl rfl Kp.true (Y.add_ rfl rfl rfl (by first | exact wrap_i64 (by omega) (by omega) | rfl)) ?_
              refine Jp.y 75 rfl (want_as rfl rfl rfl rfl) rfl rfl Kp.true (Y.neq rfl rfl rfl) ?_
              refine Jp.y 76 rfl (want_as rfl rfl rfl rfl) rfl rfl Kp.true (Y.pickT rfl rfl rfl) ?_
              refine Jp.y 77 rfl (want_all rfl) rfl rfl Kp.true (Y.pickF rfl rfl rfl) ?_
              refine Jp.y 78 rfl (want_all rfl) rfl rfl Kp.true (Y.move rfl rfl) ?_
              refine Jp.split 78 rfl (fun g78 => ?_) (fun g78 => ?_)
              · skip
                try simp only [decide_eq_false_iff_not, decide_eq_true_eq, Int.not_lt, Int.not_le, Bool.not_eq_false, Bool.not_eq_true, Bool.not_true, Bool.not_false, Bool.not_eq_true', Bool.not_eq_false', beq_eq_false_iff_ne, ne_eq, beq_iff_eq, bne_iff_ne, bne_eq_false_iff_eq, Classical.not_not] at g78
                first
                | done
                | (first
                   | omega
                   | (simp at g78; done)
                   | (simp at g78; omega))
                | skip
                  refine Jp.skip 79 rfl (want_as rfl rfl rfl rfl) rfl rfl Kp.true ?_
                  refine Jp.skip 80 rfl (want_as rfl rfl rfl rfl) rfl rfl Kp.true ?_
                  refine Jp.skip 81 rfl (want_as rfl rfl rfl rfl) rfl rfl Kp.true ?_
                  refine Jp.skip 82 rfl (want_un rfl rfl rfl) rfl rfl Kp.true ?_
                  refine Jp.skip 83 rfl (want_un rfl rfl rfl) rfl rfl Kp.true ?_
                  refine Jp.skip 84 rfl (want_un rfl rfl rfl) rfl rfl Kp.true ?_
                  refine Jp.skip 85 rfl (want_un rfl rfl rfl) rfl rfl Kp.true ?_
                  refine Jp.skip 86 rfl (want_un rfl rfl rfl) rfl rfl Kp.true ?_
                  refine Jp.skip 87 rfl (want_un rfl rfl rfl) rfl rfl Kp.true ?_
                  refine Jp.skip 88 rfl (want_un rfl rfl rfl) rfl rfl Kp.true ?_
                  refine Jp.skip 89 rfl (want_un rfl rfl rfl) rfl rfl Kp.true ?_
                  refine Jp.skip 90 rfl (want_un rfl rfl rfl) rfl rfl Kp.true ?_
                  refine Jp.skip 91 rfl (want_un rfl rfl rfl) rfl rfl Kp.true ?_
                  refine Jp.skip 92 rfl (want_un rfl rfl rfl) rfl rfl Kp.true ?_
                  refine Jp.skip 93 rfl (want_as rfl rfl rfl rfl) rfl rfl Kp.true ?_
                  refine Jp.y 94 rfl (want_all rfl) rfl rfl Kp.true (Y.pickT rfl rfl rfl) ?_
                  refine Jp.done hK19 ?_
                  refine Cd.condT rfl ?_
                  refine Cd.seq fun K30 hK30 => ?_
                  refine Cd.plain [(0, false)] rfl rfl ?_
                  refine Jp.y 4 rfl (want_all rfl) rfl rfl Kp.true (Y.assign rfl rfl) ?_
                  refine Jp.done hK30 ?_
                  refine Cd.ret [] rfl (res1 rfl rfl) trivial ⟨rfl, rfl⟩
              · skip
                try simp only [decide_eq_false_iff_not, decide_eq_true_eq, Int.not_lt, Int.not_le, Bool.not_eq_false, Bool.not_eq_true, Bool.not_true, Bool.not_false, Bool.not_eq_true', Bool.not_eq_false', beq_eq_false_iff_ne, ne_eq, beq_iff_eq, bne_iff_ne, bne_eq_false_iff_eq, Classical.not_not] at g78
                first
                | done
                | (first
                   | omega
                   | (simp at g78; done)
                   | (simp at g78; omega))
                | skip
                  refine Jp.y 79 rfl (want_as rfl rfl rfl rfl) rfl rfl Kp.true (Y.move rfl rfl) ?_
                  refine Jp.y 80 rfl (want_as rfl rfl rfl rfl) rfl rfl Kp.true (Y.neq rfl rfl rfl) ?_
                  refine Jp.y 81 rfl (want_as rfl rfl rfl rfl) rfl rfl Kp.true (Y.move rfl rfl) ?_
                  refine Jp.split 81 rfl (fun g81 => ?_) (fun g81 => ?_)
                  · skip
                    try simp only [decide_eq_false_iff_not, decide_eq_true_eq, Int.not_lt, Int.not_le, Bool.not_eq_false, Bool.not_eq_true, Bool.not_true, Bool.not_false, Bool.not_eq_true', Bool.not_eq_false', beq_eq_false_iff_ne, ne_eq, beq_iff_eq, bne_iff_ne, bne_eq_false_iff_eq, Classical.not_not] at g81
                    first
                    | done
                    | (first
                       | omega
                       | (simp at g81; done)
                       | (simp at g81; omega))
                    | skip
                      refine Jp.y 82 rfl (want_as rfl rfl rfl rfl) rfl rfl Kp.true (Y.move rfl rfl) ?_
                      refine Jp.y 83 rfl (want_as rfl rfl rfl rfl) rfl rfl Kp.true (Y.move rfl rfl) ?_
                      refine Jp.y 84 rfl (want_as rfl rfl rfl rfl) rfl rfl Kp.true (Y.neq rfl rfl rfl) ?_
                      refine Jp.y 85 rfl (want_as rfl rfl rfl rfl) rfl rfl Kp.true (Y.move rfl rfl) ?_
                      refine Jp.split 85 rfl (fun g85 => ?_) (fun g85 => ?_)
                      · skip
                        try simp only [decide_eq_false_iff_not, decide_eq_true_eq, Int.not_lt, Int.not_le, Bool.not_eq_false, Bool.not_eq_true, Bool.not_true, Bool.not_false, Bool.not_eq_true', Bool.not_eq_false', beq_eq_false_iff_ne, ne_eq, beq_iff_eq, bne_iff_ne, bne_eq_false_iff_eq, Classical.not_not] at g85
                        first
                        | done
                        | (first
                           | omega
                           | (simp at g85; done)
                           | (simp at g85; omega))
                        | skip
                          refine Jp.skip 86 rfl (want_as rfl rfl rfl rfl) rfl rfl Kp.true ?_
                          refine Jp.skip 87 rfl (want_as rfl rfl rfl rfl) rfl rfl Kp.true ?_
                          refine Jp.skip 88 rfl (want_as rfl rfl rfl rfl) rfl rfl Kp.true ?_
                          refine Jp.skip 89 rfl (want_un rfl rfl rfl) rfl rfl Kp.true ?_
                          refine Jp.skip 90 rfl (want_un rfl rfl rfl) rfl rfl Kp.true ?_
                          refine Jp.skip 91 rfl (want_as rfl rfl rfl rfl) rfl rfl Kp.true ?_
                          refine Jp.y 92 rfl (want_as rfl rfl rfl rfl) rfl rfl Kp.true (Y.pickT rfl rfl rfl) ?_
                          refine Jp.y 93 rfl (want_as rfl rfl rfl rfl) rfl rfl Kp.true (Y.pickT rfl rfl rfl) ?_
                          refine Jp.y 94 rfl (want_all rfl) rfl rfl Kp.true (Y.pickF rfl rfl rfl) ?_
                          refine Jp.done hK19 ?_
                          refine Cd.condT rfl ?_
                          refine Cd.seq fun K31 hK31 => ?_
                          refine Cd.plain [(0, false)] rfl rfl ?_
                          refine Jp.y 4 rfl (want_all rfl) rfl rfl Kp.true (Y.assign rfl rfl) ?_
                          refine Jp.done hK31 ?_
                          refine Cd.ret [] rfl (res1 rfl rfl) trivial ⟨rfl, rfl⟩
                      · skip
                        try simp only [decide_eq_false_iff_not, decide_eq_true_eq, Int.not_lt, Int.not_le, Bool.not_eq_false, Bool.not_eq_true, Bool.not_true, Bool.not_false, Bool.not_eq_true', Bool.not_eq_false', beq_eq_false_iff_ne, ne_eq, beq_iff_eq, bne_iff_ne, bne_eq_false_iff_eq, Classical.not_not] at g85
                        first
                        | done
                        | (first
                           | omega
                           | (simp at g85; done)
                           | (simp at g85; omega))
                        | skip
                          refine Jp.y 86 rfl (want_as rfl rfl rfl rfl) rfl rfl Kp.true (Y.move rfl rfl) ?_
                          refine Jp.y 87 rfl (want_as rfl rfl rfl rfl) rfl rfl Kp.true (Y.neq rfl rfl rfl) ?_
                          refine Jp.y 88 rfl (want_as rfl rfl rfl rfl) rfl rfl Kp.true (Y.move rfl rfl) ?_
                          refine Jp.split 88 rfl (fun g88 => ?_) (fun g88 => ?_)
                          · skip
                            try simp only [decide_eq_false_iff_not, decide_eq_true_eq, Int.not_lt, Int.not_le, Bool.not_eq_false, Bool.not_eq_true, Bool.not_true, Bool.not_false, Bool.not_eq_true', Bool.not_eq_false', beq_eq_false_iff_ne, ne_eq, beq_iff_eq, bne_iff_ne, bne_eq_false_iff_eq, Classical.not_not] at g88
                            first
                            | done
                            | (first
                               | omega
                               | (simp at g88; done)
                               | (simp at g88; omega))
                            | skip
                              refine Jp.y 89 rfl (want_as rfl rfl rfl rfl) rfl rfl Kp.true (Y.move rfl rfl) ?_
                              refine Jp.y 90 rfl (want_as rfl rfl rfl rfl) rfl rfl Kp.true (Y.neq rfl rfl rfl) ?_
                              refine Jp.y 91 rfl (want_as rfl rfl rfl rfl) rfl rfl Kp.true (Y.pickT rfl rfl rfl) ?_
                              refine Jp.y 92 rfl (want_as rfl rfl rfl rfl) rfl rfl Kp.true (Y.pickF rfl rfl rfl) ?_
                              refine Jp.y 93 rfl (want_as rfl rfl rfl rfl) rfl rfl Kp.true (Y.pickT rfl rfl rfl) ?_
                              refine Jp.y 94 rfl (want_all rfl) rfl rfl Kp.true (Y.pickF rfl rfl rfl) ?_
                              refine Jp.done hK19 ?_
                              refine Cd.cond rfl (fun g94 => ?_) (fun g94 => ?_)
                              · skip
                                try simp only [decide_eq_false_iff_not, decide_eq_true_eq, Int.not_lt, Int.not_le, Bool.not_eq_false, Bool.not_eq_true, Bool.not_true, Bool.not_false, Bool.not_eq_true', Bool.not_eq_false', beq_eq_false_iff_ne, ne_eq, beq_iff_eq, bne_iff_ne, bne_eq_false_iff_eq, Classical.not_not] at g94
                                first
                                | done
                                | (first
                                   | omega
                                   | (simp at g94; done)
                                   | (simp at g94; omega))
                                | skip
                                  refine Cd.seq fun K32 hK32 => ?_
                                  refine Cd.plain [(0, false)] rfl rfl ?_
                                  refine Jp.y 4 rfl (want_all rfl) rfl rfl Kp.true (Y.assign rfl rfl) ?_
                                  refine Jp.done hK32 ?_
                                  refine Cd.ret [] rfl (res1 rfl rfl) trivial ⟨rfl, rfl⟩
                              · skip
                                try simp only [decide_eq_false_iff_not, decide_eq_true_eq, Int.not_lt, Int.not_le, Bool.not_eq_false, Bool.not_eq_true, Bool.not_true, Bool.not_false, Bool.not_eq_true', Bool.not_eq_false', beq_eq_false_iff_ne, ne_eq, beq_iff_eq, bne_iff_ne, bne_eq_false_iff_eq, Classical.not_not] at g94
                                first
                                | done
                                | (first
                                   | omega
                                   | (simp at g94; done)
                                   | (simp at g94; omega))
                                | skip
                                  refine Cd.over rfl hK14 ?_
                                  refine Cd.plain [(0, false), (1, false), (2, false)] rfl rfl ?_
                                  refine Jp.y 34 rfl (want_all rfl) rfl rfl Kp.true (Y.move rfl rfl) ?_
                                  refine Jp.y 35 rfl (want_all rfl) rfl rfl Kp.true (Y.add_ rfl rfl rfl (by first | exact wrap_i64 (by omega) (by omega) | rfl)) ?_
                                  refine Jp.y 7 rfl (want_all rfl) rfl rfl Kp.true (Y.assign rfl rfl) ?_
                                  refine Jp.again hLa ⟨i + 1, M2, _⟩ ⟨hi, by rw [hb2]; exact ok2, by show M2.pages.length ≤ bn; omega, hr⟩ (by show xs.length - (i + 1) < xs.length - i; omega) rfl ⟨rfl, rfl, rfl, rfl, trivial⟩ ⟨rfl, trivial⟩
                          · skip
                            try simp only [decide_eq_false_iff_not, decide_eq_true_eq, Int.not_lt, Int.not_le, Bool.not_eq_false, Bool.not_eq_true, Bool.not_true, Bool.not_false, Bool.not_eq_true', Bool.not_eq_false', beq_eq_false_iff_ne, ne_eq, beq_iff_eq, bne_iff_ne, bne_eq_false_iff_eq, Classical.not_not] at g88
                            first
                            | done
                            | (first
                               | omega
                               | (simp at g88; done)
                               | (simp at g88; omega))
                            | skip
                              refine Jp.skip 89 rfl (want_as rfl rfl rfl rfl) rfl rfl Kp.true ?_
                              refine Jp.skip 90 rfl (want_as rfl rfl rfl rfl) rfl rfl Kp.true ?_
                              refine Jp.y 91 rfl (want_as rfl rfl rfl rfl) rfl rfl Kp.true (Y.pickF rfl rfl rfl) ?_
                              refine Jp.y 92 rfl (want_as rfl rfl rfl rfl) rfl rfl Kp.true (Y.pickF rfl rfl rfl) ?_
                              refine Jp.y 93 rfl (want_as rfl rfl rfl rfl) rfl rfl Kp.true (Y.pickT rfl rfl rfl) ?_
                              refine Jp.y 94 rfl (want_all rfl) rfl rfl Kp.true (Y.pickF rfl rfl rfl) ?_
                              refine Jp.done hK19 ?_
                              refine Cd.condF rfl ?_
                              refine Cd.over rfl hK14 ?_
                              refine Cd.plain [(0, false), (1, false), (2, false)] rfl rfl ?_
                              refine Jp.y 34 rfl (want_all rfl) rfl rfl Kp.true (Y.move rfl rfl) ?_
                              refine Jp.y 35 rfl (want_all rfl) rfl rfl Kp.true (Y.add_ rfl rfl rfl (by first | exact wrap_i64 (by omega) (by omega) | rfl)) ?_
                              refine Jp.y 7 rfl (want_all rfl) rfl rfl Kp.true (Y.assign rfl rfl) ?_
                              refine Jp.again hLa ⟨i + 1, M2, _⟩ ⟨hi, by rw [hb2]; exact ok2, by show M2.pages.length ≤ bn; omega, hr⟩ (by show xs.length - (i + 1) < xs.length - i; omega) rfl ⟨rfl, rfl, rfl, rfl, trivial⟩ ⟨rfl, trivial⟩
                  · skip
                    try simp only [decide_eq_false_iff_not, decide_eq_true_eq, Int.not_lt, Int.not_le, Bool.not_eq_false, Bool.not_eq_true, Bool.not_true, Bool.not_false, Bool.not_eq_true', Bool.not_eq_false', beq_eq_false_iff_ne, ne_eq, beq_iff_eq, bne_iff_ne, bne_eq_false_iff_eq, Classical.not_not] at g81
                    first
                    | done
                    | (first
                       | omega
                       | (simp at g81; done)
                       | (simp at g81; omega))
                    | skip
                      refine Jp.skip 82 rfl (want_as rfl rfl rfl rfl) rfl rfl Kp.true ?_
                      refine Jp.skip 83 rfl (want_as rfl rfl rfl rfl) rfl rfl Kp.true ?_
                      refine Jp.skip 84 rfl (want_as rfl rfl rfl rfl) rfl rfl Kp.true ?_
                      refine Jp.skip 85 rfl (want_as rfl rfl rfl rfl) rfl rfl Kp.true ?_
                      refine Jp.skip 86 rfl (want_un rfl rfl rfl) rfl rfl Kp.true ?_
                      refine Jp.skip 87 rfl (want_un rfl rfl rfl) rfl rfl Kp.true ?_
                      refine Jp.skip 88 rfl (want_un rfl rfl rfl) rfl rfl Kp.true ?_
                      refine Jp.skip 89 rfl (want_un rfl rfl rfl) rfl rfl Kp.true ?_
                      refine Jp.skip 90 rfl (want_un rfl rfl rfl) rfl rfl Kp.true ?_
                      refine Jp.skip 91 rfl (want_un rfl rfl rfl) rfl rfl Kp.true ?_
                      refine Jp.skip 92 rfl (want_as rfl rfl rfl rfl) rfl rfl Kp.true ?_
                      refine Jp.y 93 rfl (want_as rfl rfl rfl rfl) rfl rfl Kp.true (Y.pickF rfl rfl rfl) ?_
                      refine Jp.y 94 rfl (want_all rfl) rfl rfl Kp.true (Y.pickF rfl rfl rfl) ?_
                      refine Jp.done hK19 ?_
                      refine Cd.condF rfl ?_
                      refine Cd.over rfl hK14 ?_
                      refine Cd.plain [(0, false), (1, false), (2, false)] rfl rfl ?_
                      refine Jp.y 34 rfl (want_all rfl) rfl rfl Kp.true (Y.move rfl rfl) ?_
                      refine Jp.y 35 rfl (want_all rfl) rfl rfl Kp.true (Y.add_ rfl rfl rfl (by first | exact wrap_i64 (by omega) (by omega) | rfl)) ?_
                      refine Jp.y 7 rfl (want_all rfl) rfl rfl Kp.true (Y.assign rfl rfl) ?_
                      refine Jp.again hLa ⟨i + 1, M2, _⟩ ⟨hi, by rw [hb2]; exact ok2, by show M2.pages.length ≤ bn; omega, hr⟩ (by show xs.length - (i + 1) < xs.length - i; omega) rfl ⟨rfl, rfl, rfl, rfl, trivial⟩ ⟨rfl, trivial⟩
          · skip
            try simp only [decide_eq_false_iff_not, decide_eq_true_eq, Int.not_lt, Int.not_le, Bool.not_eq_false, Bool.not_eq_true, Bool.not_true, Bool.not_false, Bool.not_eq_true', Bool.not_eq_false', beq_eq_false_iff_ne, ne_eq, beq_iff_eq, bne_iff_ne, bne_eq_false_iff_eq, Classical.not_not] at g64
            first
            | done
            | (first
               | omega
               | (simp at g64; done)
               | (simp at g64; omega))
            | skip
              refine Jp.skip 65 rfl (want_as rfl rfl rfl rfl) rfl rfl Kp.true ?_
              refine Jp.skip 66 rfl (want_as rfl rfl rfl rfl) rfl rfl Kp.true ?_
              refine Jp.skip 67 rfl (want_as rfl rfl rfl rfl) rfl rfl Kp.true ?_
              refine Jp.skip 68 rfl (want_as rfl rfl rfl rfl) rfl rfl Kp.true ?_
              refine Jp.skip 69 rfl (want_as rfl rfl rfl rfl) rfl rfl Kp.true ?_
              refine Jp.skip 70 rfl (want_as rfl rfl rfl rfl) rfl rfl Kp.true ?_
              refine Jp.skip 71 rfl (want_as rfl rfl rfl rfl) rfl rfl Kp.true ?_
              refine Jp.skip 72 rfl (want_as rfl rfl rfl rfl) rfl rfl Kp.true ?_
              refine Jp.skip 73 rfl (want_as rfl rfl rfl rfl) rfl rfl Kp.true ?_
              refine Jp.skip 74 rfl (want_as rfl rfl rfl rfl) rfl rfl Kp.true ?_
              refine Jp.skip 75 rfl (want_as rfl rfl rfl rfl) rfl rfl Kp.true ?_
              refine Jp.y 76 rfl (want_as rfl rfl rfl rfl) rfl rfl Kp.true (Y.pickF rfl rfl rfl) ?_
              refine Jp.y 77 rfl (want_all rfl) rfl rfl Kp.true (Y.pickF rfl rfl rfl) ?_
              refine Jp.y 78 rfl (want_all rfl) rfl rfl Kp.true (Y.move rfl rfl) ?_
              refine Jp.y 79 rfl (want_as rfl rfl rfl rfl) rfl rfl Kp.true (Y.move rfl rfl) ?_
              refine Jp.y 80 rfl (want_as rfl rfl rfl rfl) rfl rfl Kp.true (Y.neq rfl rfl rfl) ?_
              refine Jp.y 81 rfl (want_as rfl rfl rfl rfl) rfl rfl Kp.true (Y.move rfl rfl) ?_
              refine Jp.split 81 rfl (fun g81 => ?_) (fun g81 => ?_)
              · skip
                try simp only [decide_eq_false_iff_not, decide_eq_true_eq, Int.not_lt, Int.not_le, Bool.not_eq_false, Bool.not_eq_true, Bool.not_true, Bool.not_false, Bool.not_eq_true', Bool.not_eq_false', beq_eq_false_iff_ne, ne_eq, beq_iff_eq, bne_iff_ne, bne_eq_false_iff_eq, Classical.not_not] at g81
                first
                | done
                | (first
                   | omega
                   | (simp at g81; done)
                   | (simp at g81; omega))
                | skip
                  refine Jp.y 82 rfl (want_as rfl rfl rfl rfl) rfl rfl Kp.true (Y.move rfl rfl) ?_
                  refine Jp.y 83 rfl (want_as rfl rfl rfl rfl) rfl rfl Kp.true (Y.move rfl rfl) ?_
                  refine Jp.y 84 rfl (want_as rfl rfl rfl rfl) rfl rfl Kp.true (Y.neq rfl rfl rfl) ?_
                  refine Jp.y 85 rfl (want_as rfl rfl rfl rfl) rfl rfl Kp.true (Y.move rfl rfl) ?_
                  refine Jp.split 85 rfl (fun g85 => ?_) (fun g85 => ?_)
                  · skip
                    try simp only [decide_eq_false_iff_not, decide_eq_true_eq, Int.not_lt, Int.not_le, Bool.not_eq_false, Bool.not_eq_true, Bool.not_true, Bool.not_false, Bool.not_eq_true', Bool.not_eq_false', beq_eq_false_iff_ne, ne_eq, beq_iff_eq, bne_iff_ne, bne_eq_false_iff_eq, Classical.not_not] at g85
                    first
                    | done
                    | (first
                       | omega
                       | (simp at g85; done)
                       | (simp at g85; omega))
                    | skip
                      refine Jp.skip 86 rfl (want_as rfl rfl rfl rfl) rfl rfl Kp.true ?_
                      refine Jp.skip 87 rfl (want_as rfl rfl rfl rfl) rfl rfl Kp.true ?_
                      refine Jp.skip 88 rfl (want_as rfl rfl rfl rfl) rfl rfl Kp.true ?_
                      refine Jp.skip 89 rfl (want_un rfl rfl rfl) rfl rfl Kp.true ?_
                      refine Jp.skip 90 rfl (want_un rfl rfl rfl) rfl rfl Kp.true ?_
                      refine Jp.skip 91 rfl (want_as rfl rfl rfl rfl) rfl rfl Kp.true ?_
                      refine Jp.y 92 rfl (want_as rfl rfl rfl rfl) rfl rfl Kp.true (Y.pickT rfl rfl rfl) ?_
                      refine Jp.y 93 rfl (want_as rfl rfl rfl rfl) rfl rfl Kp.true (Y.pickT rfl rfl rfl) ?_
                      refine Jp.y 94 rfl (want_all rfl) rfl rfl Kp.true (Y.pickF rfl rfl rfl) ?_
                      refine Jp.done hK19 ?_
                      refine Cd.condT rfl ?_
                      refine Cd.seq fun K33 hK33 => ?_
                      refine Cd.plain [(0, false)] rfl rfl ?_
                      refine Jp.y 4 rfl (want_all rfl) rfl rfl Kp.true (Y.assign rfl rfl) ?_
                      refine Jp.done hK33 ?_
                      refine Cd.ret [] rfl (res1 rfl rfl) trivial ⟨rfl, rfl⟩
                  · skip
                    try simp only [decide_eq_false_iff_not, decide_eq_true_eq, Int.not_lt, Int.not_le, Bool.not_eq_false, Bool.not_eq_true, Bool.not_true, Bool.not_false, Bool.not_eq_true', Bool.not_eq_false', beq_eq_false_iff_ne, ne_eq, beq_iff_eq, bne_iff_ne, bne_eq_false_iff_eq, Classical.not_not] at g85
                    first
                    | done
                    | (first
                       | omega
                       | (simp at g85; done)
                       | (simp at g85; omega))
                    | skip
                      refine Jp.y 86 rfl (want_as rfl rfl rfl rfl) rfl rfl Kp.true (Y.move rfl rfl) ?_
                      refine Jp.y 87 rfl (want_as rfl rfl rfl rfl) rfl rfl Kp.true (Y.neq rfl rfl rfl) ?_
                      refine Jp.y 88 rfl (want_as rfl rfl rfl rfl) rfl rfl Kp.true (Y.move rfl rfl) ?_
                      refine Jp.split 88 rfl (fun g88 => ?_) (fun g88 => ?_)
                      · skip
                        try simp only [decide_eq_false_iff_not, decide_eq_true_eq, Int.not_lt, Int.not_le, Bool.not_eq_false, Bool.not_eq_true, Bool.not_true, Bool.not_false, Bool.not_eq_true', Bool.not_eq_false', beq_eq_false_iff_ne, ne_eq, beq_iff_eq, bne_iff_ne, bne_eq_false_iff_eq, Classical.not_not] at g88
                        first
                        | done
                        | (first
                           | omega
                           | (simp at g88; done)
                           | (simp at g88; omega))
                        | skip
                          refine Jp.y 89 rfl (want_as rfl rfl rfl rfl) rfl rfl Kp.true (Y.move rfl rfl) ?_
                          refine Jp.y 90 rfl (want_as rfl rfl rfl rfl) rfl rfl Kp.true (Y.neq rfl rfl rfl) ?_
                          refine Jp.y 91 rfl (want_as rfl rfl rfl rfl) rfl rfl Kp.true (Y.pickT rfl rfl rfl) ?_
                          refine Jp.y 92 rfl (want_as rfl rfl rfl rfl) rfl rfl Kp.true (Y.pickF rfl rfl rfl) ?_
                          refine Jp.y 93 rfl (want_as rfl rfl rfl rfl) rfl rfl Kp.true (Y.pickT rfl rfl rfl) ?_
                          refine Jp.y 94 rfl (want_all rfl) rfl rfl Kp.true (Y.pickF rfl rfl rfl) ?_
                          refine Jp.done hK19 ?_
                          refine Cd.cond rfl (fun g94 => ?_) (fun g94 => ?_)
                          · skip
                            try simp only [decide_eq_false_iff_not, decide_eq_true_eq, Int.not_lt, Int.not_le, Bool.not_eq_false, Bool.not_eq_true, Bool.not_true, Bool.not_false, Bool.not_eq_true', Bool.not_eq_false', beq_eq_false_iff_ne, ne_eq, beq_iff_eq, bne_iff_ne, bne_eq_false_iff_eq, Classical.not_not] at g94
                            first
                            | done
                            | (first
                               | omega
                               | (simp at g94; done)
                               | (simp at g94; omega))
                            | skip
                              refine Cd.seq fun K34 hK34 => ?_
                              refine Cd.plain [(0, false)] rfl rfl ?_
                              refine Jp.y 4 rfl (want_all rfl) rfl rfl Kp.true (Y.assign rfl rfl) ?_
                              refine Jp.done hK34 ?_
                              refine Cd.ret [] rfl (res1 rfl rfl) trivial ⟨rfl, rfl⟩
                          · skip
                            try simp only [decide_eq_false_iff_not, decide_eq_true_eq, Int.not_lt, Int.not_le, Bool.not_eq_false, Bool.not_eq_true, Bool.not_true, Bool.not_false, Bool.not_eq_true', Bool.not_eq_false', beq_eq_false_iff_ne, ne_eq, beq_iff_eq, bne_iff_ne, bne_eq_false_iff_eq, Classical.not_not] at g94
                            first
                            | done
                            | (first
                               | omega
                               | (simp at g94; done)
                               | (simp at g94; omega))
                            | skip
                              refine Cd.over rfl hK14 ?_
                              refine Cd.plain [(0, false), (1, false), (2, false)] rfl rfl ?_
                              refine Jp.y 34 rfl (want_all rfl) rfl rfl Kp.true (Y.move rfl rfl) ?_
                              refine Jp.y 35 rfl (want_all rfl) rfl rfl Kp.true (Y.add_ rfl rfl rfl (by first | exact wrap_i64 (by omega) (by omega) | rfl)) ?_
                              refine Jp.y 7 rfl (want_all rfl) rfl rfl Kp.true (Y.assign rfl rfl) ?_
                              refine Jp.again hLa ⟨i + 1, M2, _⟩ ⟨hi, by rw [hb2]; exact ok2, by show M2.pages.length ≤ bn; omega, hr⟩ (by show xs.length - (i + 1) < xs.length - i; omega) rfl ⟨rfl, rfl, rfl, rfl, trivial⟩ ⟨rfl, trivial⟩
                      · skip
                        try simp only [decide_eq_false_iff_not, decide_eq_true_eq, Int.not_lt, Int.not_le, Bool.not_eq_false, Bool.not_eq_true, Bool.not_true, Bool.not_false, Bool.not_eq_true', Bool.not_eq_false', beq_eq_false_iff_ne, ne_eq, beq_iff_eq, bne_iff_ne, bne_eq_false_iff_eq, Classical.not_not] at g88
                        first
                        | done
                        | (first
                           | omega
                           | (simp at g88; done)
                           | (simp at g88; omega))
                        | skip
                          refine Jp.skip 89 rfl (want_as rfl rfl rfl rfl) rfl rfl Kp.true ?_
                          refine Jp.skip 90 rfl (want_as rfl rfl rfl rfl) rfl rfl Kp.true ?_
                          refine Jp.y 91 rfl (want_as rfl rfl rfl rfl) rfl rfl Kp.true (Y.pickF rfl rfl rfl) ?_
                          refine Jp.y 92 rfl (want_as rfl rfl rfl rfl) rfl rfl Kp.true (Y.pickF rfl rfl rfl) ?_
                          refine Jp.y 93 rfl (want_as rfl rfl rfl rfl) rfl rfl Kp.true (Y.pickT rfl rfl rfl) ?_
                          refine Jp.y 94 rfl (want_all rfl) rfl rfl Kp.true (Y.pickF rfl rfl rfl) ?_
                          refine Jp.done hK19 ?_
                          refine Cd.condF rfl ?_
                          refine Cd.over rfl hK14 ?_
                          refine Cd.plain [(0, false), (1, false), (2, false)] rfl rfl ?_
                          refine Jp.y 34 rfl (want_all rfl) rfl rfl Kp.true (Y.move rfl rfl) ?_
                          refine Jp.y 35 rfl (want_all rfl) rfl rfl Kp.true (Y.add_ rfl rfl rfl (by first | exact wrap_i64 (by omega) (by omega) | rfl)) ?_
                          refine Jp.y 7 rfl (want_all rfl) rfl rfl Kp.true (Y.assign rfl rfl) ?_
                          refine Jp.again hLa ⟨i + 1, M2, _⟩ ⟨hi, by rw [hb2]; exact ok2, by show M2.pages.length ≤ bn; omega, hr⟩ (by show xs.length - (i + 1) < xs.length - i; omega) rfl ⟨rfl, rfl, rfl, rfl, trivial⟩ ⟨rfl, trivial⟩
              · skip
                try simp only [decide_eq_false_iff_not, decide_eq_true_eq, Int.not_lt, Int.not_le, Bool.not_eq_false, Bool.not_eq_true, Bool.not_true, Bool.not_false, Bool.not_eq_true', Bool.not_eq_false', beq_eq_false_iff_ne, ne_eq, beq_iff_eq, bne_iff_ne, bne_eq_false_iff_eq, Classical.not_not] at g81
                first
                | done
                | (first
                   | omega
                   | (simp at g81; done)
                   | (simp at g81; omega))
                | skip
                  refine Jp.skip 82 rfl (want_as rfl rfl rfl rfl) rfl rfl Kp.true ?_
                  refine Jp.skip 83 rfl (want_as rfl rfl rfl rfl) rfl rfl Kp.true ?_
                  refine Jp.skip 84 rfl (want_as rfl rfl rfl rfl) rfl rfl Kp.true ?_
                  refine Jp.skip 85 rfl (want_as rfl rfl rfl rfl) rfl rfl Kp.true ?_
                  refine Jp.skip 86 rfl (want_un rfl rfl rfl) rfl rfl Kp.true ?_
                  refine Jp.skip 87 rfl (want_un rfl rfl rfl) rfl rfl Kp.true ?_
                  refine Jp.skip 88 rfl (want_un rfl rfl rfl) rfl rfl Kp.true ?_
                  refine Jp.skip 89 rfl (want_un rfl rfl rfl) rfl rfl Kp.true ?_
                  refine Jp.skip 90 rfl (want_un rfl rfl rfl) rfl rfl Kp.true ?_
                  refine Jp.skip 91 rfl (want_un rfl rfl rfl) rfl rfl Kp.true ?_
                  refine Jp.skip 92 rfl (want_as rfl rfl rfl rfl) rfl rfl Kp.true ?_
                  refine Jp.y 93 rfl (want_as rfl rfl rfl rfl) rfl rfl Kp.true (Y.pickF rfl rfl rfl) ?_
                  refine Jp.y 94 rfl (want_all rfl) rfl rfl Kp.true (Y.pickF rfl rfl rfl) ?_
                  refine Jp.done hK19 ?_
                  refine Cd.condF rfl ?_
                  refine Cd.over rfl hK14 ?_
                  refine Cd.plain [(0, false), (1, false), (2, false)] rfl rfl ?_
                  refine Jp.y 34 rfl (want_all rfl) rfl rfl Kp.true (Y.move rfl rfl) ?_
                  refine Jp.y 35 rfl (want_all rfl) rfl rfl Kp.true (Y.add_ rfl rfl rfl (by first | exact wrap_i64 (by omega) (by omega) | rfl)) ?_
                  refine Jp.y 7 rfl (want_all rfl) rfl rfl Kp.true (Y.assign rfl rfl) ?_
                  refine Jp.again hLa ⟨i + 1, M2, _⟩ ⟨hi, by rw [hb2]; exact ok2, by show M2.pages.length ≤ bn; omega, hr⟩ (by show xs.length - (i + 1) < xs.length - i; omega) rfl ⟨rfl, rfl, rfl, rfl, trivial⟩ ⟨rfl, trivial⟩
  · simp only [decide_eq_false_iff_not] at ga
    refine Cd.exit rfl hK10 ?_
    refine Cd.seq fun K35 hK35 => ?_
    refine Cd.plain [(0, false)] rfl rfl ?_
    refine Jp.y 4 rfl (want_all rfl) rfl rfl Kp.true (Y.assign rfl rfl) ?_
    refine Jp.done hK35 ?_
    refine Cd.ret [] rfl (res1 rfl rfl) trivial ⟨rfl, rfl⟩
end Go.Proofs.Ytgfbdiibndbbjaa
