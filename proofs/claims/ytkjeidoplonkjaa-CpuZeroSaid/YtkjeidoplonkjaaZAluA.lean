import Derived.Test.YtkjeidoplonkjaaZRvB
set_option linter.unusedVariables false
set_option linter.unusedSimpArgs false
set_option maxRecDepth 100000
namespace Go.Proofs.Ytkjeidoplonkjaa
open Go
def u32 (x : Int) : Nat := (x % 4294967296).toNat
theorem u32_lt (x : Int) : u32 x < 4294967296 := by unfold u32; omega
theorem u32_id {n : Nat} (h : n < 4294967296) : u32 (n : Int) = n := by unfold u32; omega
theorem u32_cast (x : Int) : (u32 x : Int) = x % 4294967296 := by unfold u32; omega
theorem wrap_u (x : Int) : IntKind.u32.wrap x = (u32 x : Int) := by
  rw [u32_cast]
  simp only [IntKind.wrap, IntKind.bits, IntKind.signed]
  simp
theorem s32_eq {a : Nat} (h : a < 4294967296) : s32 a = if a < 2147483648 then (a : Int) else (a : Int) - 4294967296 := by
  simp only [s32, IntKind.wrap, IntKind.bits, IntKind.signed]
  simp
  split <;> split <;> omega
theorem s32_mod (x : Int) : IntKind.i32.wrap x % 4294967296 = x % 4294967296 := by
  simp only [IntKind.wrap, IntKind.bits, IntKind.signed]
  simp
  split <;> omega
theorem u32_wrap (x : Int) : u32 (IntKind.i32.wrap x) = u32 x := by unfold u32; rw [s32_mod]
theorem s32_lo {a : Nat} (h : a < 4294967296) : -2147483648 ≤ s32 a := by rw [s32_eq h]; split <;> omega
theorem s32_hi {a : Nat} (h : a < 4294967296) : s32 a ≤ 2147483647 := by rw [s32_eq h]; split <;> omega
def doP : Nat → Nat → Nat → Nat
  | 0, a, b => u32 ((a : Int) + b)
  | 1, a, b => u32 ((a : Int) - b)
  | 2, a, b => u32 ((a * 2 ^ (b % 32) : Nat) : Int)
  | 3, a, b => if s32 a < s32 b then 1 else 0
  | 4, a, b => if a < b then 1 else 0
  | 5, a, b => a ^^^ b
  | 6, a, b => a / 2 ^ (b % 32)
  | 7, a, b => u32 ((s32 a).fdiv (2 ^ (b % 32)))
  | 8, a, b => a ||| b
  | 9, a, b => a &&& b
  | 10, a, b => u32 ((a : Int) * b)
  | 11, a, b => u32 ((s32 a * s32 b) / 4294967296)
  | 12, a, b => u32 ((s32 a * (b : Int)) / 4294967296)
  | 13, a, b => a * b / 4294967296
  | 14, a, b => if b = 0 then 4294967295 else u32 ((s32 a).tdiv (s32 b))
  | 15, a, b => if b = 0 then 4294967295 else a / b
  | 16, a, b => if b = 0 then a else u32 ((s32 a).tmod (s32 b))
  | 17, a, b => if b = 0 then a else a % b
  | _, _, _ => 0
def testP (k a b : Nat) : Bool := if k = 0 then decide (a = b) else if k = 1 then decide (a ≠ b) else if k = 4 then decide (s32 a < s32 b) else
  if k = 5 then decide (s32 b ≤ s32 a) else if k = 6 then decide (a < b) else if k = 7 then decide (b ≤ a) else false
def extP (v n : Nat) : Nat := if n = 8 then (if v % 256 < 128 then v % 256 else v % 256 + 4294967040) else if n = 16 then (if v % 65536 < 32768 then v % 65536 else v % 65536 + 4294901760) else v
theorem and31 {b : Nat} : b &&& 31 = b % 32 := by rw [show (31 : Nat) = 2 ^ 5 - 1 from rfl, Nat.and_two_pow_sub_one_eq_mod]
theorem bits31 {b : Nat} (hb : b < 4294967296) : bitsB .and .u32 (b : Int) 31 = ((b % 32 : Nat) : Int) := by
  have := bits_and32 (b := 31) hb (by omega)
  rw [and31] at this
  exact this
theorem shl_u (a n : Nat) (h : n < 32) : IntKind.u32.wrap ((a : Int) * 2 ^ (min (n : Int).toNat IntKind.u32.bits)) = (u32 ((a * 2 ^ n : Nat) : Int) : Int) := by
  rw [wrap_u, show IntKind.u32.bits = 32 from rfl, min_lit 32 (by omega)]
  simp
theorem w64_s32 {a : Nat} (h : a < 4294967296) : IntKind.i64.wrap (IntKind.i32.wrap (a : Int)) = s32 a := wrap_i64 (by have := s32_lo h; unfold s32 at this; omega) (by have := s32_hi h; unfold s32 at this; omega)
theorem mul_rng {x y : Int} (h1 : -2147483648 ≤ x) (h2 : x ≤ 2147483647) (h3 : -2147483648 ≤ y) (h4 : y ≤ 2147483647) : -4611686018427387904 ≤ x * y ∧ x * y ≤ 4611686018427387904 := by
  have e : (x * y).natAbs ≤ 2147483648 * 2147483648 := by rw [Int.natAbs_mul]; exact Nat.mul_le_mul (by omega) (by omega)
  omega
theorem mul_rng2 {x : Int} {b : Nat} (h1 : -2147483648 ≤ x) (h2 : x ≤ 2147483647) (hb : b < 4294967296) : -9223372036854775808 ≤ x * (b : Int) ∧ x * (b : Int) ≤ 9223372036854775807 := by
  have e : (x * (b : Int)).natAbs ≤ 2147483648 * 4294967295 := by rw [Int.natAbs_mul]; exact Nat.mul_le_mul (by omega) (by omega)
  omega
theorem hi_u64 {a b : Nat} (h : a * b ≤ 18446744065119617025) : IntKind.u32.wrap (((a : Int) * b).fdiv (2 ^ (min (32 : Int).toNat IntKind.u64.bits))) = ((a * b / 4294967296 : Nat) : Int) := by
  rw [← Int.natCast_mul, wrap_u, show min (32 : Int).toNat IntKind.u64.bits = 32 from rfl, Int.fdiv_eq_ediv_of_nonneg _ (by decide)]
  rw [show ((a * b : Nat) : Int) / 2 ^ 32 = ((a * b / 4294967296 : Nat) : Int) by simp, u32_id (by omega)]
theorem tup2 {x y : Int} {w : Value} (h : x = y) : Value.tuple #[.int .u32 x, w] = .tuple #[.int .u32 y, w] := by rw [h]
theorem shr_s32 {a n : Nat} (h : n < 32) : IntKind.u32.wrap ((IntKind.i32.wrap (a : Int)).fdiv (2 ^ (min (n : Int).toNat IntKind.i32.bits))) = (u32 ((s32 a).fdiv (2 ^ n)) : Int) := by
  rw [wrap_u, show IntKind.i32.bits = 32 from rfl, min_lit 32 (by omega)]; rfl
theorem hi_shr (x : Int) : IntKind.u32.wrap (x.fdiv (2 ^ (min (32 : Int).toNat IntKind.i64.bits))) = (u32 (x / 4294967296) : Int) := by
  rw [wrap_u, show min (32 : Int).toNat IntKind.i64.bits = 32 from rfl, Int.fdiv_eq_ediv_of_nonneg _ (by decide)]; rfl
theorem quo_s32 (x : Int) : IntKind.u32.wrap (IntKind.i32.wrap x) = (u32 x : Int) := by rw [wrap_u, u32_wrap]
theorem bit_spec (x : Bool) : Spec Try.prog 69 #[.bool x] (fun _ => True) [] (fun ρ ρ' v L => ρ' = ρ ∧ v = .int .u32 ((if x = true then 1 else 0 : Nat) : Int) ∧ L = []) := by
  refine Spec.of 4 Try.func69 rfl Try.ntmps69 [(0, _)] rfl rfl ?_
  intro cx ρ hr h0
  refine Cd.seq fun K1 hK1 => ?_
  refine Cd.plain [(0, false)] rfl rfl ?_
  refine Jp.y 2 rfl (want_all rfl) rfl rfl Kp.true (Y.assign rfl rfl) ?_
  refine Jp.done hK1 ?_
  refine Cd.seq fun K2 hK2 => ?_
  refine Cd.seq fun K3 hK3 => ?_
  refine Cd.plain [(0, false)] rfl rfl ?_
  refine Jp.y 3 rfl (want_all rfl) rfl rfl Kp.true (Y.move rfl rfl) ?_
  refine Jp.done hK3 ?_
  refine Cd.cond rfl (fun g => ?_) (fun g => ?_)
  · skip
    refine Cd.seq fun K4 hK4 => ?_
    refine Cd.plain [(0, false)] rfl rfl ?_
    refine Jp.y 2 rfl (want_all rfl) rfl rfl Kp.true (Y.assign rfl rfl) ?_
    refine Jp.done hK4 ?_
    refine Cd.ret [] rfl (res1 rfl rfl) trivial ⟨rfl, by rw [g]; rfl, rfl⟩
  · skip
    refine Cd.skip hK2 ?_
    refine Cd.seq fun K5 hK5 => ?_
    refine Cd.plain [(0, false)] rfl rfl ?_
    refine Jp.y 2 rfl (want_all rfl) rfl rfl Kp.true (Y.assign rfl rfl) ?_
    refine Jp.done hK5 ?_
    refine Cd.ret [] rfl (res1 rfl rfl) trivial ⟨rfl, by rw [g]; rfl, rfl⟩
theorem simple_spec (k a b : Nat) (hk : k ≤ 17) (ha : a < 4294967296) (hb : b < 4294967296) : Spec Try.prog 35 #[.int .i64 k, .int .u32 a, .int .u32 b] (fun _ => True) []
    (fun ρ ρ' v L => ρ' = ρ ∧ v = .tuple #[.int .u32 ((if k ≤ 9 then doP k a b else 0 : Nat) : Int), .bool (decide (k ≤ 9))] ∧ L = []) := by
  refine Spec.of 68 Try.func35 rfl Try.ntmps35 [(0, _), (1, _), (2, _)] rfl rfl ?_
  intro cx ρ hr h0
  have hb31 := bits31 hb
  have hm : b % 32 < 32 := Nat.mod_lt _ (by decide)
  refine Cd.seq fun K6 hK6 => ?_
  refine Cd.plain [(0, false), (1, false)] rfl rfl ?_
  refine Jp.y 6 rfl (want_all rfl) rfl rfl Kp.true (Y.assign rfl rfl) ?_
  refine Jp.y 7 rfl (want_all rfl) rfl rfl Kp.true (Y.assign rfl rfl) ?_
  refine Jp.done hK6 ?_
  refine Cd.seq fun K7 hK7 => ?_
  refine Cd.seq fun K8 hK8 => ?_
  refine Cd.plain [(0, false)] rfl rfl ?_
  refine Jp.y 8 rfl (want_all rfl) rfl rfl Kp.true (Y.move rfl rfl) ?_
  refine Jp.done hK8 ?_
  refine Cd.block ?_
  refine Cd.seq fun K9 hK9 => ?_
  refine Cd.plain [(0, false), (1, false)] rfl rfl ?_
  refine Jp.y 10 rfl (want_all rfl) rfl rfl Kp.true (Y.eql rfl rfl rfl) ?_
  refine Jp.y 9 rfl (want_all rfl) rfl rfl Kp.true (Y.assign rfl rfl) ?_
  refine Jp.done hK9 ?_
  refine Cd.cond rfl (fun g9 => ?_) (fun g9 => ?_)
  · skip
    try simp only [decide_eq_false_iff_not, decide_eq_true_eq, Int.not_lt, Int.not_le, Bool.not_eq_false, Bool.not_eq_true, Bool.not_true, Bool.not_false, Bool.not_eq_true', Bool.not_eq_false', beq_eq_false_iff_ne, ne_eq, beq_iff_eq, bne_iff_ne, bne_eq_false_iff_eq, Classical.not_not] at g9
    refine Cd.seq fun K10 hK10 => ?_
    refine Cd.plain [(0, false), (1, false), (2, false), (3, false), (4, false)] rfl rfl ?_
    refine Jp.y 11 rfl (want_all rfl) rfl rfl Kp.true (Y.move rfl rfl) ?_
    refine Jp.y 12 rfl (want_all rfl) rfl rfl Kp.true (Y.move rfl rfl) ?_
    refine Jp.y 13 rfl (want_all rfl) rfl rfl Kp.true (Y.add_ rfl rfl rfl (by first | exact wrap_u32 (by omega) (by omega) | rfl)) ?_
    refine Jp.y 6 rfl (want_all rfl) rfl rfl Kp.true (Y.assign rfl rfl) ?_
    refine Jp.y 7 rfl (want_all rfl) rfl rfl Kp.true (Y.assign rfl rfl) ?_
    refine Jp.done hK10 ?_
    refine Cd.ret [] rfl (res2 rfl rfl rfl) trivial ⟨rfl, by
      first
      | (exfalso; omega)
      | (obtain rfl : k = 0 := by omega
         exact tup2 (wrap_u _))
      | (obtain rfl : k = 1 := by omega
         exact tup2 (wrap_u _))
      | (obtain rfl : k = 2 := by omega
         exact tup2 (by rw [hb31]; exact shl_u a _ hm))
      | (obtain rfl : k = 3 := by omega
         exact tup2 (congrArg Int.ofNat (by simp only [decide_eq_true_eq]; rfl)))
      | (obtain rfl : k = 4 := by omega
         exact tup2 (congrArg Int.ofNat (by simp only [decide_eq_true_eq, Int.ofNat_lt]; rfl)))
      | (obtain rfl : k = 5 := by omega
         exact tup2 (bits_xor32 ha hb))
      | (obtain rfl : k = 6 := by omega
         exact tup2 (by rw [hb31]; exact shr32 a _ (by omega)))
      | (obtain rfl : k = 7 := by omega
         exact tup2 (by rw [hb31]; exact shr_s32 hm))
      | (obtain rfl : k = 8 := by omega
         exact tup2 (bits_or32 ha hb))
      | (obtain rfl : k = 9 := by omega
         exact tup2 (bits_and32 ha hb))
      | (rw [if_neg (by omega), decide_eq_false (by omega)]; rfl), rfl⟩
  · skip
    try simp only [decide_eq_false_iff_not, decide_eq_true_eq, Int.not_lt, Int.not_le, Bool.not_eq_false, Bool.not_eq_true, Bool.not_true, Bool.not_false, Bool.not_eq_true', Bool.not_eq_false', beq_eq_false_iff_ne, ne_eq, beq_iff_eq, bne_iff_ne, bne_eq_false_iff_eq, Classical.not_not] at g9
    refine Cd.seq fun K11 hK11 => ?_
    refine Cd.plain [(0, false), (1, false)] rfl rfl ?_
    refine Jp.y 15 rfl (want_all rfl) rfl rfl Kp.true (Y.eql rfl rfl rfl) ?_
    refine Jp.y 14 rfl (want_all rfl) rfl rfl Kp.true (Y.assign rfl rfl) ?_
    refine Jp.done hK11 ?_
    refine Cd.cond rfl (fun g14 => ?_) (fun g14 => ?_)
    · skip
      try simp only [decide_eq_false_iff_not, decide_eq_true_eq, Int.not_lt, Int.not_le, Bool.not_eq_false, Bool.not_eq_true, Bool.not_true, Bool.not_false, Bool.not_eq_true', Bool.not_eq_false', beq_eq_false_iff_ne, ne_eq, beq_iff_eq, bne_iff_ne, bne_eq_false_iff_eq, Classical.not_not] at g14
      refine Cd.seq fun K12 hK12 => ?_
      refine Cd.plain [(0, false), (1, false), (2, false), (3, false), (4, false)] rfl rfl ?_
      refine Jp.y 16 rfl (want_all rfl) rfl rfl Kp.true (Y.move rfl rfl) ?_
      refine Jp.y 17 rfl (want_all rfl) rfl rfl Kp.true (Y.move rfl rfl) ?_
      refine Jp.y 18 rfl (want_all rfl) rfl rfl Kp.true (Y.sub_ rfl rfl rfl (by first | exact wrap_u32 (by omega) (by omega) | rfl)) ?_
      refine Jp.y 6 rfl (want_all rfl) rfl rfl Kp.true (Y.assign rfl rfl) ?_
      refine Jp.y 7 rfl (want_all rfl) rfl rfl Kp.true (Y.assign rfl rfl) ?_
      refine Jp.done hK12 ?_
      refine Cd.ret [] rfl (res2 rfl rfl rfl) trivial ⟨rfl, by
        first
        | (exfalso; omega)
        | (obtain rfl : k = 0 := by omega
           exact tup2 (wrap_u _))
        | (obtain rfl : k = 1 := by omega
           exact tup2 (wrap_u _))
        | (obtain rfl : k = 2 := by omega
           exact tup2 (by rw [hb31]; exact shl_u a _ hm))
        | (obtain rfl : k = 3 := by omega
           exact tup2 (congrArg Int.ofNat (by simp only [decide_eq_true_eq]; rfl)))
        | (obtain rfl : k = 4 := by omega
           exact tup2 (congrArg Int.ofNat (by simp only [decide_eq_true_eq, Int.ofNat_lt]; rfl)))
        | (obtain rfl : k = 5 := by omega
           exact tup2 (bits_xor32 ha hb))
        | (obtain rfl : k = 6 := by omega
           exact tup2 (by rw [hb31]; exact shr32 a _ (by omega)))
        | (obtain rfl : k = 7 := by omega
           exact tup2 (by rw [hb31]; exact shr_s32 hm))
        | (obtain rfl : k = 8 := by omega
           exact tup2 (bits_or32 ha hb))
        | (obtain rfl : k = 9 := by omega
           exact tup2 (bits_and32 ha hb))
        | (rw [if_neg (by omega), decide_eq_false (by omega)]; rfl), rfl⟩
    · skip
      try simp only [decide_eq_false_iff_not, decide_eq_true_eq, Int.not_lt, Int.not_le, Bool.not_eq_false, Bool.not_eq_true, Bool.not_true, Bool.not_false, Bool.not_eq_true', Bool.not_eq_false', beq_eq_false_iff_ne, ne_eq, beq_iff_eq, bne_iff_ne, bne_eq_false_iff_eq, Classical.not_not] at g14
      refine Cd.seq fun K13 hK13 => ?_
      refine Cd.plain [(0, false), (1, false)] rfl rfl ?_
      refine Jp.y 20 rfl (want_all rfl) rfl rfl Kp.true (Y.eql rfl rfl rfl) ?_
      refine Jp.y 19 rfl (want_all rfl) rfl rfl Kp.true (Y.assign rfl rfl) ?_
      refine Jp.done hK13 ?_
      refine Cd.cond rfl (fun g19 => ?_) (fun g19 => ?_)
      · skip
        try simp only [decide_eq_false_iff_not, decide_eq_true_eq, Int.not_lt, Int.not_le, Bool.not_eq_false, Bool.not_eq_true, Bool.not_true, Bool.not_false, Bool.not_eq_true', Bool.not_eq_false', beq_eq_false_iff_ne, ne_eq, beq_iff_eq, bne_iff_ne, bne_eq_false_iff_eq, Classical.not_not] at g19
        refine Cd.seq fun K14 hK14 => ?_
        refine Cd.plain [(0, false), (1, false), (2, false), (3, false), (4, false), (5, false)] rfl rfl ?_
        refine Jp.y 21 rfl (want_all rfl) rfl rfl Kp.true (Y.move rfl rfl) ?_
        refine Jp.y 22 rfl (want_all rfl) rfl rfl Kp.true (Y.move rfl rfl) ?_
        refine Jp.y 23 rfl (want_all rfl) rfl rfl Kp.true (Y.bits rfl rfl rfl rfl) ?_
        refine Jp.y 24 rfl (want_all rfl) rfl rfl Kp.true (Y.shl rfl rfl rfl (by first | decide | omega)) ?_
        refine Jp.y 6 rfl (want_all rfl) rfl rfl Kp.true (Y.assign rfl rfl) ?_
        refine Jp.y 7 rfl (want_all rfl) rfl rfl Kp.true (Y.assign rfl rfl) ?_
        refine Jp.done hK14 ?_
        refine Cd.ret [] rfl (res2 rfl rfl rfl) trivial ⟨rfl, by
          first
          | (exfalso; omega)
          | (obtain rfl : k = 0 := by omega
             exact tup2 (wrap_u _))
          | (obtain rfl : k = 1 := by omega
             exact tup2 (wrap_u _))
          | (obtain rfl : k = 2 := by omega
             exact tup2 (by rw [hb31]; exact shl_u a _ hm))
          | (obtain rfl : k = 3 := by omega
             exact tup2 (congrArg Int.ofNat (by simp only [decide_eq_true_eq]; rfl)))
          | (obtain rfl : k = 4 := by omega
             exact tup2 (congrArg Int.ofNat (by simp only [decide_eq_true_eq, Int.ofNat_lt]; rfl)))
          | (obtain rfl : k = 5 := by omega
             exact tup2 (bits_xor32 ha hb))
          | (obtain rfl : k = 6 := by omega
             exact tup2 (by rw [hb31]; exact shr32 a _ (by omega)))
          | (obtain rfl : k = 7 := by omega
             exact tup2 (by rw [hb31]; exact shr_s32 hm))
          | (obtain rfl : k = 8 := by omega
             exact tup2 (bits_or32 ha hb))
          | (obtain rfl : k = 9 := by omega
             exact tup2 (bits_and32 ha hb))
          | (rw [if_neg (by omega), decide_eq_false (by omega)]; rfl), rfl⟩
      · skip
        try simp only [decide_eq_false_iff_not, decide_eq_true_eq, Int.not_lt, Int.not_le, Bool.not_eq_false, Bool.not_eq_true, Bool.not_true, Bool.not_false, Bool.not_eq_true', Bool.not_eq_false', beq_eq_false_iff_ne, ne_eq, beq_iff_eq, bne_iff_ne, bne_eq_false_iff_eq, Classical.not_not] at g19
        refine Cd.seq fun K15 hK15 => ?_
        refine Cd.plain [(0, false), (1, false)] rfl rfl ?_
        refine Jp.y 26 rfl (want_all rfl) rfl rfl Kp.true (Y.eql rfl rfl rfl) ?_
        refine Jp.y 25 rfl (want_all rfl) rfl rfl Kp.true (Y.assign rfl rfl) ?_
        refine Jp.done hK15 ?_
        refine Cd.cond rfl (fun g25 => ?_) (fun g25 => ?_)
        · skip
          try simp only [decide_eq_false_iff_not, decide_eq_true_eq, Int.not_lt, Int.not_le, Bool.not_eq_false, Bool.not_eq_true, Bool.not_true, Bool.not_false, Bool.not_eq_true', Bool.not_eq_false', beq_eq_false_iff_ne, ne_eq, beq_iff_eq, bne_iff_ne, bne_eq_false_iff_eq, Classical.not_not] at g25
          refine Cd.seq fun K16 hK16 => ?_
          refine Cd.plain [(0, false), (1, false), (2, false), (3, false), (4, false), (5, false)] rfl rfl ?_
          refine Jp.y 27 rfl (want_all rfl) rfl rfl Kp.true (Y.move rfl rfl) ?_
          refine Jp.y 28 rfl (want_all rfl) rfl rfl Kp.true (Y.move rfl rfl) ?_
          refine Jp.y 29 rfl (want_all rfl) rfl rfl Kp.true (Y.bits rfl rfl rfl rfl) ?_
          refine Jp.y 30 rfl (want_all rfl) rfl rfl Kp.true (Y.shr rfl rfl rfl (by first | decide | omega)) ?_
          refine Jp.y 6 rfl (want_all rfl) rfl rfl Kp.true (Y.assign rfl rfl) ?_
          refine Jp.y 7 rfl (want_all rfl) rfl rfl Kp.true (Y.assign rfl rfl) ?_
          refine Jp.done hK16 ?_
          refine Cd.ret [] rfl (res2 rfl rfl rfl) trivial ⟨rfl, by
            first
            | (exfalso; omega)
            | (obtain rfl : k = 0 := by omega
               exact tup2 (wrap_u _))
            | (obtain rfl : k = 1 := by omega
               exact tup2 (wrap_u _))
            | (obtain rfl : k = 2 := by omega
               exact tup2 (by rw [hb31]; exact shl_u a _ hm))
            | (obtain rfl : k = 3 := by omega
               exact tup2 (congrArg Int.ofNat (by simp only [decide_eq_true_eq]; rfl)))
            | (obtain rfl : k = 4 := by omega
               exact tup2 (congrArg Int.ofNat (by simp only [decide_eq_true_eq, Int.ofNat_lt]; rfl)))
            | (obtain rfl : k = 5 := by omega
               exact tup2 (bits_xor32 ha hb))
            | (obtain rfl : k = 6 := by omega
               exact tup2 (by rw [hb31]; exact shr32 a _ (by omega)))
            | (obtain rfl : k = 7 := by omega
               exact tup2 (by rw [hb31]; exact shr_s32 hm))
            | (obtain rfl : k = 8 := by omega
               exact tup2 (bits_or32 ha hb))
            | (obtain rfl : k = 9 := by omega
               exact tup2 (bits_and32 ha hb))
            | (rw [if_neg (by omega), decide_eq_false (by omega)]; rfl), rfl⟩
        · skip
          try simp only [decide_eq_false_iff_not, decide_eq_true_eq, Int.not_lt, Int.not_le, Bool.not_eq_false, Bool.not_eq_true, Bool.not_true, Bool.not_false, Bool.not_eq_true', Bool.not_eq_false', beq_eq_false_iff_ne, ne_eq, beq_iff_eq, bne_iff_ne, bne_eq_false_iff_eq, Classical.not_not] at g25
          refine Cd.seq fun K17 hK17 => ?_
          refine Cd.plain [(0, false), (1, false)] rfl rfl ?_
          refine Jp.y 32 rfl (want_all rfl) rfl rfl Kp.true (Y.eql rfl rfl rfl) ?_
          refine Jp.y 31 rfl (want_all rfl) rfl rfl Kp.true (Y.assign rfl rfl) ?_
          refine Jp.done hK17 ?_
          refine Cd.cond rfl (fun g31 => ?_) (fun g31 => ?_)
          · skip
            try simp only [decide_eq_false_iff_not, decide_eq_true_eq, Int.not_lt, Int.not_le, Bool.not_eq_false, Bool.not_eq_true, Bool.not_true, Bool.not_false, Bool.not_eq_true', Bool.not_eq_false', beq_eq_false_iff_ne, ne_eq, beq_iff_eq, bne_iff_ne, bne_eq_false_iff_eq, Classical.not_not] at g31
            refine Cd.seq fun K18 hK18 => ?_
            refine Cd.plain [(0, false), (1, false), (2, false), (3, false), (4, false), (5, false), (6, false), (7, false)] rfl rfl ?_
            refine Jp.y 33 rfl (want_all rfl) rfl rfl Kp.true (Y.move rfl rfl) ?_
            refine Jp.y 34 rfl (want_all rfl) rfl rfl Kp.true (Y.conv_ rfl rfl Try.underlying25 Try.underlying21 (by first | exact wrap_i32 (by omega) (by omega) | rfl)) ?_
            refine Jp.y 35 rfl (want_all rfl) rfl rfl Kp.true (Y.move rfl rfl) ?_
            refine Jp.y 36 rfl (want_all rfl) rfl rfl Kp.true (Y.bits rfl rfl rfl rfl) ?_
            refine Jp.y 37 rfl (want_all rfl) rfl rfl Kp.true (Y.shr rfl rfl rfl (by first | decide | omega)) ?_
            refine Jp.y 38 rfl (want_all rfl) rfl rfl Kp.true (Y.conv_ rfl rfl Try.underlying21 Try.underlying25 (by first | exact wrap_u32 (by omega) (by omega) | rfl)) ?_
            refine Jp.y 6 rfl (want_all rfl) rfl rfl Kp.true (Y.assign rfl rfl) ?_
            refine Jp.y 7 rfl (want_all rfl) rfl rfl Kp.true (Y.assign rfl rfl) ?_
            refine Jp.done hK18 ?_
            refine Cd.ret [] rfl (res2 rfl rfl rfl) trivial ⟨rfl, by
              first
              | (exfalso; omega)
              | (obtain rfl : k = 0 := by omega
                 exact tup2 (wrap_u _))
              | (obtain rfl : k = 1 := by omega
                 exact tup2 (wrap_u _))
              | (obtain rfl : k = 2 := by omega
                 exact tup2 (by rw [hb31]; exact shl_u a _ hm))
              | (obtain rfl : k = 3 := by omega
                 exact tup2 (congrArg Int.ofNat (by simp only [decide_eq_true_eq]; rfl)))
              | (obtain rfl : k = 4 := by omega
                 exact tup2 (congrArg Int.ofNat (by simp only [decide_eq_true_eq, Int.ofNat_lt]; rfl)))
              | (obtain rfl : k = 5 := by omega
                 exact tup2 (bits_xor32 ha hb))
              | (obtain rfl : k = 6 := by omega
                 exact tup2 (by rw [hb31]; exact shr32 a _ (by omega)))
              | (obtain rfl : k = 7 := by omega
                 exact tup2 (by rw [hb31]; exact shr_s32 hm))
              | (obtain rfl : k = 8 := by omega
                 exact tup2 (bits_or32 ha hb))
              | (obtain rfl : k = 9 := by omega
                 exact tup2 (bits_and32 ha hb))
              | (rw [if_neg (by omega), decide_eq_false (by omega)]; rfl), rfl⟩
          · skip
            try simp only [decide_eq_false_iff_not, decide_eq_true_eq, Int.not_lt, Int.not_le, Bool.not_eq_false, Bool.not_eq_true, Bool.not_true, Bool.not_false, Bool.not_eq_true', Bool.not_eq_false', beq_eq_false_iff_ne, ne_eq, beq_iff_eq, bne_iff_ne, bne_eq_false_iff_eq, Classical.not_not] at g31
            refine Cd.seq fun K19 hK19 => ?_
            refine Cd.plain [(0, false), (1, false)] rfl rfl ?_
            refine Jp.y 40 rfl (want_all rfl) rfl rfl Kp.true (Y.eql rfl rfl rfl) ?_
            refine Jp.y 39 rfl (want_all rfl) rfl rfl Kp.true (Y.assign rfl rfl) ?_
            refine Jp.done hK19 ?_
            refine Cd.cond rfl (fun g39 => ?_) (fun g39 => ?_)
            · skip
              try simp only [decide_eq_false_iff_not, decide_eq_true_eq, Int.not_lt, Int.not_le, Bool.not_eq_false, Bool.not_eq_true, Bool.not_true, Bool.not_false, Bool.not_eq_true', Bool.not_eq_false', beq_eq_false_iff_ne, ne_eq, beq_iff_eq, bne_iff_ne, bne_eq_false_iff_eq, Classical.not_not] at g39
              refine Cd.seq fun K20 hK20 => ?_
              refine Cd.plain [(0, false), (1, false), (2, false), (3, false), (4, false), (5, false), (6, false), (7, false)] rfl rfl ?_
              refine Jp.y 41 rfl (want_all rfl) rfl rfl Kp.true (Y.move rfl rfl) ?_
              refine Jp.y 42 rfl (want_all rfl) rfl rfl Kp.true (Y.conv_ rfl rfl Try.underlying25 Try.underlying21 (by first | exact wrap_i32 (by omega) (by omega) | rfl)) ?_
              refine Jp.y 43 rfl (want_all rfl) rfl rfl Kp.true (Y.move rfl rfl) ?_
              refine Jp.y 44 rfl (want_all rfl) rfl rfl Kp.true (Y.conv_ rfl rfl Try.underlying25 Try.underlying21 (by first | exact wrap_i32 (by omega) (by omega) | rfl)) ?_
              refine Jp.y 45 rfl (want_all rfl) rfl rfl Kp.true (Y.lss rfl rfl rfl) ?_
              refine Jp.call [] [] (bit_spec _) 46 rfl (want_all rfl) rfl rfl (Runs.fn rfl Try.call69 rfl) (by decide) (by decide) rfl trivial ?_
              rintro v101 ρ101 L101 ⟨rfl, rfl, rfl⟩
              refine ⟨rfl, fun hle101 => ⟨Kp.true, ?_⟩⟩
              refine Jp.y 6 rfl (want_all rfl) rfl rfl Kp.true (Y.assign rfl rfl) ?_
              refine Jp.y 7 rfl (want_all rfl) rfl rfl Kp.true (Y.assign rfl rfl) ?_
              refine Jp.done hK20 ?_
              refine Cd.ret [] rfl (res2 rfl rfl rfl) trivial ⟨rfl, by
                first
                | (exfalso; omega)
                | (obtain rfl : k = 0 := by omega
                   exact tup2 (wrap_u _))
                | (obtain rfl : k = 1 := by omega
                   exact tup2 (wrap_u _))
                | (obtain rfl : k = 2 := by omega
                   exact tup2 (by rw [hb31]; exact shl_u a _ hm))
                | (obtain rfl : k = 3 := by omega
                   exact tup2 (congrArg Int.ofNat (by simp only [decide_eq_true_eq]; rfl)))
                | (obtain rfl : k = 4 := by omega
                   exact tup2 (congrArg Int.ofNat (by simp only [decide_eq_true_eq, Int.ofNat_lt]; rfl)))
                | (obtain rfl : k = 5 := by omega
                   exact tup2 (bits_xor32 ha hb))
                | (obtain rfl : k = 6 := by omega
                   exact tup2 (by rw [hb31]; exact shr32 a _ (by omega)))
                | (obtain rfl : k = 7 := by omega
                   exact tup2 (by rw [hb31]; exact shr_s32 hm))
                | (obtain rfl : k = 8 := by omega
                   exact tup2 (bits_or32 ha hb))
                | (obtain rfl : k = 9 := by omega
                   exact tup2 (bits_and32 ha hb))
                | (rw [if_neg (by omega), decide_eq_false (by omega)]; rfl), rfl⟩
            · skip
              try simp only [decide_eq_false_iff_not, decide_eq_true_eq, Int.not_lt, Int.not_le, Bool.not_eq_false, Bool.not_eq_true, Bool.not_true, Bool.not_false, Bool.not_eq_true', Bool.not_eq_false', beq_eq_false_iff_ne, ne_eq, beq_iff_eq, bne_iff_ne, bne_eq_false_iff_eq, Classical.not_not] at g39
              refine Cd.seq fun K21 hK21 => ?_
              refine Cd.plain [(0, false), (1, false)] rfl rfl ?_
              refine Jp.y 48 rfl (want_all rfl) rfl rfl Kp.true (Y.eql rfl rfl rfl) ?_
              refine Jp.y 47 rfl (want_all rfl) rfl rfl Kp.true (Y.assign rfl rfl) ?_
              refine Jp.done hK21 ?_
              refine Cd.cond rfl (fun g47 => ?_) (fun g47 => ?_)
              · skip
                try simp only [decide_eq_false_iff_not, decide_eq_true_eq, Int.not_lt, Int.not_le, Bool.not_eq_false, Bool.not_eq_true, Bool.not_true, Bool.not_false, Bool.not_eq_true', Bool.not_eq_false', beq_eq_false_iff_ne, ne_eq, beq_iff_eq, bne_iff_ne, bne_eq_false_iff_eq, Classical.not_not] at g47
                refine Cd.seq fun K22 hK22 => ?_
                refine Cd.plain [(0, false), (1, false), (2, false), (3, false), (4, false), (5, false)] rfl rfl ?_
                refine Jp.y 49 rfl (want_all rfl) rfl rfl Kp.true (Y.move rfl rfl) ?_
                refine Jp.y 50 rfl (want_all rfl) rfl rfl Kp.true (Y.move rfl rfl) ?_
                refine Jp.y 51 rfl (want_all rfl) rfl rfl Kp.true (Y.lss rfl rfl rfl) ?_
                refine Jp.call [] [] (bit_spec _) 52 rfl (want_all rfl) rfl rfl (Runs.fn rfl Try.call69 rfl) (by decide) (by decide) rfl trivial ?_
                rintro v102 ρ102 L102 ⟨rfl, rfl, rfl⟩
                refine ⟨rfl, fun hle102 => ⟨Kp.true, ?_⟩⟩
                refine Jp.y 6 rfl (want_all rfl) rfl rfl Kp.true (Y.assign rfl rfl) ?_
                refine Jp.y 7 rfl (want_all rfl) rfl rfl Kp.true (Y.assign rfl rfl) ?_
                refine Jp.done hK22 ?_
                refine Cd.ret [] rfl (res2 rfl rfl rfl) trivial ⟨rfl, by
                  first
                  | (exfalso; omega)
                  | (obtain rfl : k = 0 := by omega
                     exact tup2 (wrap_u _))
                  | (obtain rfl : k = 1 := by omega
                     exact tup2 (wrap_u _))
                  | (obtain rfl : k = 2 := by omega
                     exact tup2 (by rw [hb31]; exact shl_u a _ hm))
                  | (obtain rfl : k = 3 := by omega
                     exact tup2 (congrArg Int.ofNat (by simp only [decide_eq_true_eq]; rfl)))
                  | (obtain rfl : k = 4 := by omega
                     exact tup2 (congrArg Int.ofNat (by simp only [decide_eq_true_eq, Int.ofNat_lt]; rfl)))
                  | (obtain rfl : k = 5 := by omega
                     exact tup2 (bits_xor32 ha hb))
                  | (obtain rfl : k = 6 := by omega
                     exact tup2 (by rw [hb31]; exact shr32 a _ (by omega)))
                  | (obtain rfl : k = 7 := by omega
                     exact tup2 (by rw [hb31]; exact shr_s32 hm))
                  | (obtain rfl : k = 8 := by omega
                     exact tup2 (bits_or32 ha hb))
                  | (obtain rfl : k = 9 := by omega
                     exact tup2 (bits_and32 ha hb))
                  | (rw [if_neg (by omega), decide_eq_false (by omega)]; rfl), rfl⟩
              · skip
                try simp only [decide_eq_false_iff_not, decide_eq_true_eq, Int.not_lt, Int.not_le, Bool.not_eq_false, Bool.not_eq_true, Bool.not_true, Bool.not_false, Bool.not_eq_true', Bool.not_eq_false', beq_eq_false_iff_ne, ne_eq, beq_iff_eq, bne_iff_ne, bne_eq_false_iff_eq, Classical.not_not] at g47
                refine Cd.seq fun K23 hK23 => ?_
                refine Cd.plain [(0, false), (1, false)] rfl rfl ?_
                refine Jp.y 54 rfl (want_all rfl) rfl rfl Kp.true (Y.eql rfl rfl rfl) ?_
                refine Jp.y 53 rfl (want_all rfl) rfl rfl Kp.true (Y.assign rfl rfl) ?_
                refine Jp.done hK23 ?_
                refine Cd.cond rfl (fun g53 => ?_) (fun g53 => ?_)
                · skip
                  try simp only [decide_eq_false_iff_not, decide_eq_true_eq, Int.not_lt, Int.not_le, Bool.not_eq_false, Bool.not_eq_true, Bool.not_true, Bool.not_false, Bool.not_eq_true', Bool.not_eq_false', beq_eq_false_iff_ne, ne_eq, beq_iff_eq, bne_iff_ne, bne_eq_false_iff_eq, Classical.not_not] at g53
                  refine Cd.seq fun K24 hK24 => ?_
                  refine Cd.plain [(0, false), (1, false), (2, false), (3, false), (4, false)] rfl rfl ?_
                  refine Jp.y 55 rfl (want_all rfl) rfl rfl Kp.true (Y.move rfl rfl) ?_
                  refine Jp.y 56 rfl (want_all rfl) rfl rfl Kp.true (Y.move rfl rfl) ?_
                  refine Jp.y 57 rfl (want_all rfl) rfl rfl Kp.true (Y.bits rfl rfl rfl rfl) ?_
                  refine Jp.y 6 rfl (want_all rfl) rfl rfl Kp.true (Y.assign rfl rfl) ?_
                  refine Jp.y 7 rfl (want_all rfl) rfl rfl Kp.true (Y.assign rfl rfl) ?_
                  refine Jp.done hK24 ?_
                  refine Cd.ret [] rfl (res2 rfl rfl rfl) trivial ⟨rfl, by
                    first
                    | (exfalso; omega)
                    | (obtain rfl : k = 0 := by omega
                       exact tup2 (wrap_u _))
                    | (obtain rfl : k = 1 := by omega
                       exact tup2 (wrap_u _))
                    | (obtain rfl : k = 2 := by omega
                       exact tup2 (by rw [hb31]; exact shl_u a _ hm))
                    | (obtain rfl : k = 3 := by omega
                       exact tup2 (congrArg Int.ofNat (by simp only [decide_eq_true_eq]; rfl)))
                    | (obtain rfl : k = 4 := by omega
                       exact tup2 (congrArg Int.ofNat (by simp only [decide_eq_true_eq, Int.ofNat_lt]; rfl)))
                    | (obtain rfl : k = 5 := by omega
                       exact tup2 (bits_xor32 ha hb))
                    | (obtain rfl : k = 6 := by omega
                       exact tup2 (by rw [hb31]; exact shr32 a _ (by omega)))
                    | (obtain rfl : k = 7 := by omega
                       exact tup2 (by rw [hb31]; exact shr_s32 hm))
                    | (obtain rfl : k = 8 := by omega
                       exact tup2 (bits_or32 ha hb))
                    | (obtain rfl : k = 9 := by omega
                       exact tup2 (bits_and32 ha hb))
                    | (rw [if_neg (by omega), decide_eq_false (by omega)]; rfl), rfl⟩
                · skip
                  try simp only [decide_eq_false_iff_not, decide_eq_true_eq, Int.not_lt, Int.not_le, Bool.not_eq_false, Bool.not_eq_true, Bool.not_true, Bool.not_false, Bool.not_eq_true', Bool.not_eq_false', beq_eq_false_iff_ne, ne_eq, beq_iff_eq, bne_iff_ne, bne_eq_false_iff_eq, Classical.not_not] at g53
                  refine Cd.seq fun K25 hK25 => ?_
                  refine Cd.plain [(0, false), (1, false)] rfl rfl ?_
                  refine Jp.y 59 rfl (want_all rfl) rfl rfl Kp.true (Y.eql rfl rfl rfl) ?_
                  refine Jp.y 58 rfl (want_all rfl) rfl rfl Kp.true (Y.assign rfl rfl) ?_
                  refine Jp.done hK25 ?_
                  refine Cd.cond rfl (fun g58 => ?_) (fun g58 => ?_)
                  · skip
                    try simp only [decide_eq_false_iff_not, decide_eq_true_eq, Int.not_lt, Int.not_le, Bool.not_eq_false, Bool.not_eq_true, Bool.not_true, Bool.not_false, Bool.not_eq_true', Bool.not_eq_false', beq_eq_false_iff_ne, ne_eq, beq_iff_eq, bne_iff_ne, bne_eq_false_iff_eq, Classical.not_not] at g58
                    refine Cd.seq fun K26 hK26 => ?_
                    refine Cd.plain [(0, false), (1, false), (2, false), (3, false), (4, false)] rfl rfl ?_
                    refine Jp.y 60 rfl (want_all rfl) rfl rfl Kp.true (Y.move rfl rfl) ?_
                    refine Jp.y 61 rfl (want_all rfl) rfl rfl Kp.true (Y.move rfl rfl) ?_
                    refine Jp.y 62 rfl (want_all rfl) rfl rfl Kp.true (Y.bits rfl rfl rfl rfl) ?_
                    refine Jp.y 6 rfl (want_all rfl) rfl rfl Kp.true (Y.assign rfl rfl) ?_
                    refine Jp.y 7 rfl (want_all rfl) rfl rfl Kp.true (Y.assign rfl rfl) ?_
                    refine Jp.done hK26 ?_
                    refine Cd.ret [] rfl (res2 rfl rfl rfl) trivial ⟨rfl, by
                      first
                      | (exfalso; omega)
                      | (obtain rfl : k = 0 := by omega
                         exact tup2 (wrap_u _))
                      | (obtain rfl : k = 1 := by omega
                         exact tup2 (wrap_u _))
                      | (obtain rfl : k = 2 := by omega
                         exact tup2 (by rw [hb31]; exact shl_u a _ hm))
                      | (obtain rfl : k = 3 := by omega
                         exact tup2 (congrArg Int.ofNat (by simp only [decide_eq_true_eq]; rfl)))
                      | (obtain rfl : k = 4 := by omega
                         exact tup2 (congrArg Int.ofNat (by simp only [decide_eq_true_eq, Int.ofNat_lt]; rfl)))
                      | (obtain rfl : k = 5 := by omega
                         exact tup2 (bits_xor32 ha hb))
                      | (obtain rfl : k = 6 := by omega
                         exact tup2 (by rw [hb31]; exact shr32 a _ (by omega)))
                      | (obtain rfl : k = 7 := by omega
                         exact tup2 (by rw [hb31]; exact shr_s32 hm))
                      | (obtain rfl : k = 8 := by omega
                         exact tup2 (bits_or32 ha hb))
                      | (obtain rfl : k = 9 := by omega
                         exact tup2 (bits_and32 ha hb))
                      | (rw [if_neg (by omega), decide_eq_false (by omega)]; rfl), rfl⟩
                  · skip
                    try simp only [decide_eq_false_iff_not, decide_eq_true_eq, Int.not_lt, Int.not_le, Bool.not_eq_false, Bool.not_eq_true, Bool.not_true, Bool.not_false, Bool.not_eq_true', Bool.not_eq_false', beq_eq_false_iff_ne, ne_eq, beq_iff_eq, bne_iff_ne, bne_eq_false_iff_eq, Classical.not_not] at g58
                    refine Cd.seq fun K27 hK27 => ?_
                    refine Cd.plain [(0, false), (1, false)] rfl rfl ?_
                    refine Jp.y 64 rfl (want_all rfl) rfl rfl Kp.true (Y.eql rfl rfl rfl) ?_
                    refine Jp.y 63 rfl (want_all rfl) rfl rfl Kp.true (Y.assign rfl rfl) ?_
                    refine Jp.done hK27 ?_
                    refine Cd.cond rfl (fun g63 => ?_) (fun g63 => ?_)
                    · skip
                      try simp only [decide_eq_false_iff_not, decide_eq_true_eq, Int.not_lt, Int.not_le, Bool.not_eq_false, Bool.not_eq_true, Bool.not_true, Bool.not_false, Bool.not_eq_true', Bool.not_eq_false', beq_eq_false_iff_ne, ne_eq, beq_iff_eq, bne_iff_ne, bne_eq_false_iff_eq, Classical.not_not] at g63
                      refine Cd.seq fun K28 hK28 => ?_
                      refine Cd.plain [(0, false), (1, false), (2, false), (3, false), (4, false)] rfl rfl ?_
                      refine Jp.y 65 rfl (want_all rfl) rfl rfl Kp.true (Y.move rfl rfl) ?_
                      refine Jp.y 66 rfl (want_all rfl) rfl rfl Kp.true (Y.move rfl rfl) ?_
                      refine Jp.y 67 rfl (want_all rfl) rfl rfl Kp.true (Y.bits rfl rfl rfl rfl) ?_
                      refine Jp.y 6 rfl (want_all rfl) rfl rfl Kp.true (Y.assign rfl rfl) ?_
                      refine Jp.y 7 rfl (want_all rfl) rfl rfl Kp.true (Y.assign rfl rfl) ?_
                      refine Jp.done hK28 ?_
                      refine Cd.ret [] rfl (res2 rfl rfl rfl) trivial ⟨rfl, by
                        first
                        | (exfalso; omega)
                        | (obtain rfl : k = 0 := by omega
                           exact tup2 (wrap_u _))
                        | (obtain rfl : k = 1 := by omega
                           exact tup2 (wrap_u _))
                        | (obtain rfl : k = 2 := by omega
                           exact tup2 (by rw [hb31]; exact shl_u a _ hm))
                        | (obtain rfl : k = 3 := by omega
                           exact tup2 (congrArg Int.ofNat (by simp only [decide_eq_true_eq]; rfl)))
                        | (obtain rfl : k = 4 := by omega
                           exact tup2 (congrArg Int.ofNat (by simp only [decide_eq_true_eq, Int.ofNat_lt]; rfl)))
                        | (obtain rfl : k = 5 := by omega
                           exact tup2 (bits_xor32 ha hb))
                        | (obtain rfl : k = 6 := by omega
                           exact tup2 (by rw [hb31]; exact shr32 a _ (by omega)))
                        | (obtain rfl : k = 7 := by omega
                           exact tup2 (by rw [hb31]; exact shr_s32 hm))
                        | (obtain rfl : k = 8 := by omega
                           exact tup2 (bits_or32 ha hb))
                        | (obtain rfl : k = 9 := by omega
                           exact tup2 (bits_and32 ha hb))
                        | (rw [if_neg (by omega), decide_eq_false (by omega)]; rfl), rfl⟩
                    · skip
                      try simp only [decide_eq_false_iff_not, decide_eq_true_eq, Int.not_lt, Int.not_le, Bool.not_eq_false, Bool.not_eq_true, Bool.not_true, Bool.not_false, Bool.not_eq_true', Bool.not_eq_false', beq_eq_false_iff_ne, ne_eq, beq_iff_eq, bne_iff_ne, bne_eq_false_iff_eq, Classical.not_not] at g63
                      refine Cd.over rfl hK7 ?_
                      refine Cd.seq fun K29 hK29 => ?_
                      refine Cd.plain [(0, false), (1, false)] rfl rfl ?_
                      refine Jp.y 6 rfl (want_all rfl) rfl rfl Kp.true (Y.assign rfl rfl) ?_
                      refine Jp.y 7 rfl (want_all rfl) rfl rfl Kp.true (Y.assign rfl rfl) ?_
                      refine Jp.done hK29 ?_
                      refine Cd.ret [] rfl (res2 rfl rfl rfl) trivial ⟨rfl, by
                        first
                        | (exfalso; omega)
                        | (obtain rfl : k = 0 := by omega
                           exact tup2 (wrap_u _))
                        | (obtain rfl : k = 1 := by omega
                           exact tup2 (wrap_u _))
                        | (obtain rfl : k = 2 := by omega
                           exact tup2 (by rw [hb31]; exact shl_u a _ hm))
                        | (obtain rfl : k = 3 := by omega
                           exact tup2 (congrArg Int.ofNat (by simp only [decide_eq_true_eq]; rfl)))
                        | (obtain rfl : k = 4 := by omega
                           exact tup2 (congrArg Int.ofNat (by simp only [decide_eq_true_eq, Int.ofNat_lt]; rfl)))
                        | (obtain rfl : k = 5 := by omega
                           exact tup2 (bits_xor32 ha hb))
                        | (obtain rfl : k = 6 := by omega
                           exact tup2 (by rw [hb31]; exact shr32 a _ (by omega)))
                        | (obtain rfl : k = 7 := by omega
                           exact tup2 (by rw [hb31]; exact shr_s32 hm))
                        | (obtain rfl : k = 8 := by omega
                           exact tup2 (bits_or32 ha hb))
                        | (obtain rfl : k = 9 := by omega
                           exact tup2 (bits_and32 ha hb))
                        | (rw [if_neg (by omega), decide_eq_false (by omega)]; rfl), rfl⟩
theorem divideu_spec (a b : Nat) (ha : a < 4294967296) (hb : b < 4294967296) : Spec Try.prog 37 #[.int .u32 a, .int .u32 b] (fun _ => True) []
    (fun ρ ρ' v L => ρ' = ρ ∧ v = .tuple #[.int .u32 ((doP 15 a b : Nat) : Int), .int .u32 ((doP 17 a b : Nat) : Int)] ∧ L = []) := by
  refine Spec.of 15 Try.func37 rfl Try.ntmps37 [(0, _), (1, _)] rfl rfl ?_
  intro cx ρ hr h0
  refine Cd.seq fun K30 hK30 => ?_
  refine Cd.plain [(0, false), (1, false)] rfl rfl ?_
  refine Jp.y 4 rfl (want_all rfl) rfl rfl Kp.true (Y.assign rfl rfl) ?_
  refine Jp.y 5 rfl (want_all rfl) rfl rfl Kp.true (Y.assign rfl rfl) ?_
  refine Jp.done hK30 ?_
  refine Cd.seq fun K31 hK31 => ?_
  refine Cd.seq fun K32 hK32 => ?_
  refine Cd.plain [(0, false), (1, false)] rfl rfl ?_
  refine Jp.y 6 rfl (want_all rfl) rfl rfl Kp.true (Y.move rfl rfl) ?_
  refine Jp.y 7 rfl (want_all rfl) rfl rfl Kp.true (Y.eql rfl rfl rfl) ?_
  refine Jp.done hK32 ?_
  refine Cd.cond rfl (fun g => ?_) (fun g => ?_)
  · skip
    refine Cd.seq fun K33 hK33 => ?_
    refine Cd.plain [(0, false), (1, false), (2, false)] rfl rfl ?_
    refine Jp.y 8 rfl (want_all rfl) rfl rfl Kp.true (Y.move rfl rfl) ?_
    refine Jp.y 4 rfl (want_all rfl) rfl rfl Kp.true (Y.assign rfl rfl) ?_
    refine Jp.y 5 rfl (want_all rfl) rfl rfl Kp.true (Y.assign rfl rfl) ?_
    refine Jp.done hK33 ?_
    have hb0 : b = 0 := by simp at g; omega
    refine Cd.ret [] rfl (res2 rfl rfl rfl) trivial ⟨rfl, by rw [show doP 15 a b = 4294967295 from if_pos hb0, show doP 17 a b = a from if_pos hb0]; rfl, rfl⟩
  · have hb0 : ¬ b = 0 := by simp at g; omega
    have h1 : a / b ≤ a := Nat.div_le_self ..
    have h2 : (a : Int) / b = ((a / b : Nat) : Int) := by simp
    have h3 : (a : Int) % b = ((a % b : Nat) : Int) := by simp
    refine Cd.skip hK31 ?_
    refine Cd.seq fun K34 hK34 => ?_
    refine Cd.drawn [] trivial [(0, true), (1, true), (2, true), (3, true), (4, true), (5, true), (6, true), (7, true)] follows (by kernel_rfl) (fun hrl => ?_)
    refine Jp.q 9 rfl (want_all rfl) rfl rfl (Y.move rfl rfl) ?_
    refine Jp.q 10 rfl (want_all rfl) rfl rfl (Y.move rfl rfl) ?_
    refine Jp.q 11 rfl (want_all rfl) rfl rfl (Y.quoN rfl rfl rfl (by omega) (by omega) (wrap_u32 (by rw [h2]; exact Int.natCast_nonneg _) (by rw [h2]; exact Int.ofNat_le.2 (show a / b ≤ 4294967295 by omega)))) ?_
    refine Jp.q 12 rfl (want_all rfl) rfl rfl (Y.move rfl rfl) ?_
    refine Jp.q 13 rfl (want_all rfl) rfl rfl (Y.move rfl rfl) ?_
    refine Jp.q 14 rfl (want_all rfl) rfl rfl (by first | exact Y.remN rfl rfl rfl (by omega) (by omega) | exact Y.rem rfl rfl rfl (by first | decide | omega)) ?_
    refine Jp.q 4 rfl (want_all rfl) rfl rfl (Y.assign rfl rfl) ?_
    refine Jp.q 5 rfl (want_all rfl) rfl rfl (Y.assign rfl rfl) ?_
    refine Jp.done hK34 ?_
    refine Cd.ret [] rfl (res2 rfl rfl rfl) trivial ⟨rfl, by rw [show doP 15 a b = a / b from if_neg hb0, show doP 17 a b = a % b from if_neg hb0]; rfl, rfl⟩
theorem divide_spec (a b : Nat) (ha : a < 4294967296) (hb : b < 4294967296) : Spec Try.prog 36 #[.int .u32 a, .int .u32 b] (fun _ => True) []
    (fun ρ ρ' v L => ρ' = ρ ∧ v = .tuple #[.int .u32 ((doP 14 a b : Nat) : Int), .int .u32 ((doP 16 a b : Nat) : Int)] ∧ L = []) := by
  refine Spec.of 30 Try.func36 rfl Try.ntmps36 [(0, _), (1, _)] rfl rfl ?_
  intro cx ρ hr h0
  have hs0 : b ≠ 0 → IntKind.i32.wrap (b : Int) ≠ 0 := fun h => by
    have := s32_eq hb
    unfold s32 at this
    rw [this]; split <;> omega
  have hsa := s32_eq ha
  have hsb := s32_eq hb
  refine Cd.seq fun K36 hK36 => ?_
  refine Cd.plain [(0, false), (1, false)] rfl rfl ?_
  refine Jp.y 4 rfl (want_all rfl) rfl rfl Kp.true (Y.assign rfl rfl) ?_
  refine Jp.y 5 rfl (want_all rfl) rfl rfl Kp.true (Y.assign rfl rfl) ?_
  refine Jp.done hK36 ?_
  refine Cd.seq fun K37 hK37 => ?_
  refine Cd.block ?_
  refine Cd.seq fun K38 hK38 => ?_
  refine Cd.plain [(0, false), (1, false), (2, false)] rfl rfl ?_
  refine Jp.y 7 rfl (want_all rfl) rfl rfl Kp.true (Y.move rfl rfl) ?_
  refine Jp.y 8 rfl (want_all rfl) rfl rfl Kp.true (Y.eql rfl rfl rfl) ?_
  refine Jp.y 6 rfl (want_all rfl) rfl rfl Kp.true (Y.assign rfl rfl) ?_
  refine Jp.done hK38 ?_
  refine Cd.cond rfl (fun g6 => ?_) (fun g6 => ?_)
  · skip
    try simp only [decide_eq_false_iff_not, decide_eq_true_eq, Int.not_lt, Int.not_le, Bool.not_eq_false, Bool.not_eq_true, Bool.not_true, Bool.not_false, Bool.not_eq_true', Bool.not_eq_false', beq_eq_false_iff_ne, ne_eq, beq_iff_eq, bne_iff_ne, bne_eq_false_iff_eq, Classical.not_not] at g6
    refine Cd.seq fun K39 hK39 => ?_
    refine Cd.plain [(0, false), (1, false), (2, false)] rfl rfl ?_
    refine Jp.y 9 rfl (want_all rfl) rfl rfl Kp.true (Y.move rfl rfl) ?_
    refine Jp.y 4 rfl (want_all rfl) rfl rfl Kp.true (Y.assign rfl rfl) ?_
    refine Jp.y 5 rfl (want_all rfl) rfl rfl Kp.true (Y.assign rfl rfl) ?_
    refine Jp.done hK39 ?_
    refine Cd.ret [] rfl (res2 rfl rfl rfl) trivial ⟨rfl, by
      first
      | (have hb0 : b = 0 := by omega
         rw [show doP 14 a b = 4294967295 from if_pos hb0, show doP 16 a b = a from if_pos hb0]; rfl)
      | (obtain rfl : a = 2147483648 := by omega
         obtain rfl : b = 4294967295 := by omega
         rfl), rfl⟩
  · skip
    try simp only [decide_eq_false_iff_not, decide_eq_true_eq, Int.not_lt, Int.not_le, Bool.not_eq_false, Bool.not_eq_true, Bool.not_true, Bool.not_false, Bool.not_eq_true', Bool.not_eq_false', beq_eq_false_iff_ne, ne_eq, beq_iff_eq, bne_iff_ne, bne_eq_false_iff_eq, Classical.not_not] at g6
    refine Cd.seq fun K40 hK40 => ?_
    refine Cd.plain [(0, false), (1, false), (2, false), (3, false), (4, false), (5, false), (6, false)] rfl rfl ?_
    refine Jp.y 11 rfl (want_all rfl) rfl rfl Kp.true (Y.move rfl rfl) ?_
    refine Jp.y 12 rfl (want_all rfl) rfl rfl Kp.true (Y.eql rfl rfl rfl) ?_
    refine Jp.y 13 rfl (want_all rfl) rfl rfl Kp.true (Y.move rfl rfl) ?_
    refine Jp.split 13 rfl (fun g13 => ?_) (fun g13 => ?_)
    · skip
      try simp only [decide_eq_false_iff_not, decide_eq_true_eq, Int.not_lt, Int.not_le, Bool.not_eq_false, Bool.not_eq_true, Bool.not_true, Bool.not_false, Bool.not_eq_true', Bool.not_eq_false', beq_eq_false_iff_ne, ne_eq, beq_iff_eq, bne_iff_ne, bne_eq_false_iff_eq, Classical.not_not] at g13
      refine Jp.y 14 rfl (want_as rfl rfl rfl rfl) rfl rfl Kp.true (Y.move rfl rfl) ?_
      refine Jp.y 15 rfl (want_as rfl rfl rfl rfl) rfl rfl Kp.true (Y.eql rfl rfl rfl) ?_
      refine Jp.y 16 rfl (want_all rfl) rfl rfl Kp.true (Y.pickT rfl rfl rfl) ?_
      refine Jp.y 10 rfl (want_all rfl) rfl rfl Kp.true (Y.assign rfl rfl) ?_
      refine Jp.done hK40 ?_
      refine Cd.cond rfl (fun g10 => ?_) (fun g10 => ?_)
      · skip
        try simp only [decide_eq_false_iff_not, decide_eq_true_eq, Int.not_lt, Int.not_le, Bool.not_eq_false, Bool.not_eq_true, Bool.not_true, Bool.not_false, Bool.not_eq_true', Bool.not_eq_false', beq_eq_false_iff_ne, ne_eq, beq_iff_eq, bne_iff_ne, bne_eq_false_iff_eq, Classical.not_not] at g10
        refine Cd.seq fun K41 hK41 => ?_
        refine Cd.plain [(0, false), (1, false), (2, false)] rfl rfl ?_
        refine Jp.y 17 rfl (want_all rfl) rfl rfl Kp.true (Y.move rfl rfl) ?_
        refine Jp.y 4 rfl (want_all rfl) rfl rfl Kp.true (Y.assign rfl rfl) ?_
        refine Jp.y 5 rfl (want_all rfl) rfl rfl Kp.true (Y.assign rfl rfl) ?_
        refine Jp.done hK41 ?_
        refine Cd.ret [] rfl (res2 rfl rfl rfl) trivial ⟨rfl, by
          first
          | (have hb0 : b = 0 := by omega
             rw [show doP 14 a b = 4294967295 from if_pos hb0, show doP 16 a b = a from if_pos hb0]; rfl)
          | (obtain rfl : a = 2147483648 := by omega
             obtain rfl : b = 4294967295 := by omega
             rfl), rfl⟩
      · skip
        try simp only [decide_eq_false_iff_not, decide_eq_true_eq, Int.not_lt, Int.not_le, Bool.not_eq_false, Bool.not_eq_true, Bool.not_true, Bool.not_false, Bool.not_eq_true', Bool.not_eq_false', beq_eq_false_iff_ne, ne_eq, beq_iff_eq, bne_iff_ne, bne_eq_false_iff_eq, Classical.not_not] at g10
        refine Cd.over rfl hK37 ?_
        refine Cd.seq fun K42 hK42 => ?_
        refine Cd.drawn [] trivial [(0, true), (1, true), (2, true), (3, true), (4, true), (5, true), (6, true), (7, true), (8, true), (9, true), (10, true), (11, true), (12, true), (13, true)] follows (by kernel_rfl) (fun hrl => ?_)
        have hb0 : ¬ b = 0 := by omega
        have hs0 := hs0 hb0
        refine Jp.q 18 rfl (want_all rfl) rfl rfl (Y.move rfl rfl) ?_
        refine Jp.q 19 rfl (want_all rfl) rfl rfl (Y.conv_ rfl rfl Try.underlying25 Try.underlying21 (by first | exact wrap_i32 (by omega) (by omega) | rfl)) ?_
        refine Jp.q 20 rfl (want_all rfl) rfl rfl (Y.move rfl rfl) ?_
        refine Jp.q 21 rfl (want_all rfl) rfl rfl (Y.conv_ rfl rfl Try.underlying25 Try.underlying21 (by first | exact wrap_i32 (by omega) (by omega) | rfl)) ?_
        refine Jp.q 22 rfl (want_all rfl) rfl rfl (Y.quo rfl rfl rfl hs0) ?_
        refine Jp.q 23 rfl (want_all rfl) rfl rfl (Y.conv_ rfl rfl Try.underlying21 Try.underlying25 (by first | exact wrap_u32 (by omega) (by omega) | rfl)) ?_
        refine Jp.q 24 rfl (want_all rfl) rfl rfl (Y.move rfl rfl) ?_
        refine Jp.q 25 rfl (want_all rfl) rfl rfl (Y.conv_ rfl rfl Try.underlying25 Try.underlying21 (by first | exact wrap_i32 (by omega) (by omega) | rfl)) ?_
        refine Jp.q 26 rfl (want_all rfl) rfl rfl (Y.move rfl rfl) ?_
        refine Jp.q 27 rfl (want_all rfl) rfl rfl (Y.conv_ rfl rfl Try.underlying25 Try.underlying21 (by first | exact wrap_i32 (by omega) (by omega) | rfl)) ?_
        refine Jp.q 28 rfl (want_all rfl) rfl rfl (Y.rem rfl rfl rfl hs0) ?_
        refine Jp.q 29 rfl (want_all rfl) rfl rfl (Y.conv_ rfl rfl Try.underlying21 Try.underlying25 (by first | exact wrap_u32 (by omega) (by omega) | rfl)) ?_
        refine Jp.q 4 rfl (want_all rfl) rfl rfl (Y.assign rfl rfl) ?_
        refine Jp.q 5 rfl (want_all rfl) rfl rfl (Y.assign rfl rfl) ?_
        refine Jp.done hK42 ?_
        refine Cd.ret [] rfl (res2 rfl rfl rfl) trivial ⟨rfl, by rw [show doP 14 a b = u32 ((s32 a).tdiv (s32 b)) from if_neg hb0, show doP 16 a b = u32 ((s32 a).tmod (s32 b)) from if_neg hb0, ← quo_s32 ((s32 a).tdiv (s32 b)), ← wrap_u ((s32 a).tmod (s32 b))]; rfl, rfl⟩
    · skip
      try simp only [decide_eq_false_iff_not, decide_eq_true_eq, Int.not_lt, Int.not_le, Bool.not_eq_false, Bool.not_eq_true, Bool.not_true, Bool.not_false, Bool.not_eq_true', Bool.not_eq_false', beq_eq_false_iff_ne, ne_eq, beq_iff_eq, bne_iff_ne, bne_eq_false_iff_eq, Classical.not_not] at g13
      refine Jp.skip 14 rfl (want_as rfl rfl rfl rfl) rfl rfl Kp.true ?_
      refine Jp.skip 15 rfl (want_as rfl rfl rfl rfl) rfl rfl Kp.true ?_
      refine Jp.y 16 rfl (want_all rfl) rfl rfl Kp.true (Y.pickF rfl rfl rfl) ?_
      refine Jp.y 10 rfl (want_all rfl) rfl rfl Kp.true (Y.assign rfl rfl) ?_
      refine Jp.done hK40 ?_
      refine Cd.condF rfl ?_
      refine Cd.over rfl hK37 ?_
      refine Cd.seq fun K44 hK44 => ?_
      refine Cd.drawn [] trivial [(0, true), (1, true), (2, true), (3, true), (4, true), (5, true), (6, true), (7, true), (8, true), (9, true), (10, true), (11, true), (12, true), (13, true)] follows (by kernel_rfl) (fun hrl => ?_)
      have hb0 : ¬ b = 0 := by omega
      have hs0 := hs0 hb0
      refine Jp.q 18 rfl (want_all rfl) rfl rfl (Y.move rfl rfl) ?_
      refine Jp.q 19 rfl (want_all rfl) rfl rfl (Y.conv_ rfl rfl Try.underlying25 Try.underlying21 (by first | exact wrap_i32 (by omega) (by omega) | rfl)) ?_
      refine Jp.q 20 rfl (want_all rfl) rfl rfl (Y.move rfl rfl) ?_
      refine Jp.q 21 rfl (want_all rfl) rfl rfl (Y.conv_ rfl rfl Try.underlying25 Try.underlying21 (by first | exact wrap_i32 (by omega) (by omega) | rfl)) ?_
      refine Jp.q 22 rfl (want_all rfl) rfl rfl (Y.quo rfl rfl rfl hs0) ?_
      refine Jp.q 23 rfl (want_all rfl) rfl rfl (Y.conv_ rfl rfl Try.underlying21 Try.underlying25 (by first | exact wrap_u32 (by omega) (by omega) | rfl)) ?_
      refine Jp.q 24 rfl (want_all rfl) rfl rfl (Y.move rfl rfl) ?_
      refine Jp.q 25 rfl (want_all rfl) rfl rfl (Y.conv_ rfl rfl Try.underlying25 Try.underlying21 (by first | exact wrap_i32 (by omega) (by omega) | rfl)) ?_
      refine Jp.q 26 rfl (want_all rfl) rfl rfl (Y.move rfl rfl) ?_
      refine Jp.q 27 rfl (want_all rfl) rfl rfl (Y.conv_ rfl rfl Try.underlying25 Try.underlying21 (by first | exact wrap_i32 (by omega) (by omega) | rfl)) ?_
      refine Jp.q 28 rfl (want_all rfl) rfl rfl (Y.rem rfl rfl rfl hs0) ?_
      refine Jp.q 29 rfl (want_all rfl) rfl rfl (Y.conv_ rfl rfl Try.underlying21 Try.underlying25 (by first | exact wrap_u32 (by omega) (by omega) | rfl)) ?_
      refine Jp.q 4 rfl (want_all rfl) rfl rfl (Y.assign rfl rfl) ?_
      refine Jp.q 5 rfl (want_all rfl) rfl rfl (Y.assign rfl rfl) ?_
      refine Jp.done hK44 ?_
      refine Cd.ret [] rfl (res2 rfl rfl rfl) trivial ⟨rfl, by rw [show doP 14 a b = u32 ((s32 a).tdiv (s32 b)) from if_neg hb0, show doP 16 a b = u32 ((s32 a).tmod (s32 b)) from if_neg hb0, ← quo_s32 ((s32 a).tdiv (s32 b)), ← wrap_u ((s32 a).tmod (s32 b))]; rfl, rfl⟩
def isK (k : Nat) : Prop := k ≤ 17
theorem do_spec (k a b : Nat) (hk : k ≤ 17) (ha : a < 4294967296) (hb : b < 4294967296) : Spec Try.prog 17 #[.int .i64 k, .int .u32 a, .int .u32 b] (fun _ => True) []
    (fun ρ ρ' v L => ρ' = ρ ∧ v = .tuple #[.int .u32 ((doP k a b : Nat) : Int), .int .i64 0] ∧ L = []) := by
  refine Spec.of 99 Try.func17 rfl Try.ntmps17 [(0, _), (1, _), (2, _)] rfl rfl ?_
  intro cx ρ hr h0
  have ha64 := w64_s32 ha
  have hb64 := w64_s32 hb
  have hla := s32_lo ha
  have hha := s32_hi ha
  have hlb := s32_lo hb
  have hhb := s32_hi hb
  have hm1 : -4611686018427387904 ≤ s32 a * s32 b ∧ s32 a * s32 b ≤ 4611686018427387904 := mul_rng hla hha hlb hhb
  have hm2 : -9223372036854775808 ≤ s32 a * (b : Int) ∧ s32 a * (b : Int) ≤ 9223372036854775807 := mul_rng2 hla hha hb
  have hm3 : a * b ≤ 18446744065119617025 := Nat.mul_le_mul (show a ≤ 4294967295 by omega) (show b ≤ 4294967295 by omega)
  refine Cd.seq fun K46 hK46 => ?_
  refine Cd.plain [(0, false), (1, false)] rfl rfl ?_
  refine Jp.y 6 rfl (want_all rfl) rfl rfl Kp.true (Y.assign rfl rfl) ?_
  refine Jp.y 7 rfl (want_all rfl) rfl rfl Kp.true (Y.assign rfl rfl) ?_
  refine Jp.done hK46 ?_
  refine Cd.seq fun K47 hK47 => ?_
  refine Cd.seq fun K48 hK48 => ?_
  refine Cd.plain [(0, false), (1, false), (2, false), (3, false), (4, false), (5, false), (6, false), (7, false), (8, false)] rfl rfl ?_
  refine Jp.y 19 rfl (want_all rfl) rfl rfl Kp.true (Y.move rfl rfl) ?_
  refine Jp.y 20 rfl (want_all rfl) rfl rfl Kp.true (Y.move rfl rfl) ?_
  refine Jp.y 21 rfl (want_all rfl) rfl rfl Kp.true (Y.move rfl rfl) ?_
  refine Jp.call [] [] (simple_spec k a b hk ha hb) 22 rfl (want_all rfl) rfl rfl (Runs.fn rfl Try.call35 rfl) (by decide) (by decide) rfl trivial ?_
  rintro v1 ρ1 L1 ⟨rfl, rfl, rfl⟩
  refine ⟨rfl, fun hle1 => ⟨Kp.true, ?_⟩⟩
  refine Jp.y 18 rfl (want_all rfl) rfl rfl Kp.true (Y.move rfl rfl) ?_
  refine Jp.y 23 rfl (want_all rfl) rfl rfl Kp.true (Y.extract rfl rfl rfl) ?_
  refine Jp.y 24 rfl (want_all rfl) rfl rfl Kp.true (Y.extract rfl rfl rfl) ?_
  refine Jp.y 8 rfl (want_all rfl) rfl rfl Kp.true (Y.assign rfl rfl) ?_
  refine Jp.y 9 rfl (want_all rfl) rfl rfl Kp.true (Y.assign rfl rfl) ?_
  refine Jp.done hK48 ?_
  refine Cd.seq fun K49 hK49 => ?_
  refine Cd.plain [(0, false)] rfl rfl ?_
  refine Jp.y 25 rfl (want_all rfl) rfl rfl Kp.true (Y.move rfl rfl) ?_
  refine Jp.done hK49 ?_
  refine Cd.cond rfl (fun g => ?_) (fun g => ?_)
  · simp only [decide_eq_true_eq] at g
    refine Cd.seq fun K50 hK50 => ?_
    refine Cd.plain [(0, false), (1, false), (2, false)] rfl rfl ?_
    refine Jp.y 26 rfl (want_all rfl) rfl rfl Kp.true (Y.move rfl rfl) ?_
    refine Jp.y 6 rfl (want_all rfl) rfl rfl Kp.true (Y.assign rfl rfl) ?_
    refine Jp.y 7 rfl (want_all rfl) rfl rfl Kp.true (Y.assign rfl rfl) ?_
    refine Jp.done hK50 ?_
    refine Cd.ret [] rfl (res2 rfl rfl rfl) trivial ⟨rfl, by rw [if_pos g], rfl⟩
  · simp only [decide_eq_false_iff_not] at g
    refine Cd.skip hK47 ?_
    refine Cd.seq fun K51 hK51 => ?_
    refine Cd.seq fun K52 hK52 => ?_
    refine Cd.plain [(0, false)] rfl rfl ?_
    refine Jp.y 27 rfl (want_all rfl) rfl rfl Kp.true (Y.move rfl rfl) ?_
    refine Jp.done hK52 ?_
    refine Cd.block ?_
    refine Cd.seq fun K53 hK53 => ?_
    refine Cd.plain [(0, false), (1, false)] rfl rfl ?_
    refine Jp.y 29 rfl (want_all rfl) rfl rfl Kp.true (Y.eql rfl rfl rfl) ?_
    refine Jp.y 28 rfl (want_all rfl) rfl rfl Kp.true (Y.assign rfl rfl) ?_
    refine Jp.done hK53 ?_
    refine Cd.cond rfl (fun g28 => ?_) (fun g28 => ?_)
    · skip
      try simp only [decide_eq_false_iff_not, decide_eq_true_eq, Int.not_lt, Int.not_le, Bool.not_eq_false, Bool.not_eq_true, Bool.not_true, Bool.not_false, Bool.not_eq_true', Bool.not_eq_false', beq_eq_false_iff_ne, ne_eq, beq_iff_eq, bne_iff_ne, bne_eq_false_iff_eq, Classical.not_not] at g28
      refine Cd.seq fun K54 hK54 => ?_
      refine Cd.plain [(0, false), (1, false), (2, false), (3, false), (4, false)] rfl rfl ?_
      refine Jp.y 30 rfl (want_all rfl) rfl rfl Kp.true (Y.move rfl rfl) ?_
      refine Jp.y 31 rfl (want_all rfl) rfl rfl Kp.true (Y.move rfl rfl) ?_
      refine Jp.y 32 rfl (want_all rfl) rfl rfl Kp.true (Y.mul_ rfl rfl rfl (by first | exact wrap_u32 (by omega) (by omega) | rfl)) ?_
      refine Jp.y 6 rfl (want_all rfl) rfl rfl Kp.true (Y.assign rfl rfl) ?_
      refine Jp.y 7 rfl (want_all rfl) rfl rfl Kp.true (Y.assign rfl rfl) ?_
      refine Jp.done hK54 ?_
      refine Cd.ret [] rfl (res2 rfl rfl rfl) trivial ⟨rfl, by
        first
        | (exfalso; omega)
        | (obtain rfl : k = 10 := by omega
           exact tup2 (wrap_u _))
        | (obtain rfl : k = 11 := by omega
           exact tup2 (by rw [ha64, hb64, wrap_i64 (by omega) (by omega)]; exact hi_shr _))
        | (obtain rfl : k = 12 := by omega
           exact tup2 (by rw [ha64, wrap_i64 (by omega) (by omega)]; exact hi_shr _))
        | (obtain rfl : k = 13 := by omega
           exact tup2 (hi_u64 hm3))
        | (obtain rfl : k = 14 := by omega
           rfl)
        | (obtain rfl : k = 15 := by omega
           rfl)
        | (obtain rfl : k = 16 := by omega
           rfl)
        | (obtain rfl : k = 17 := by omega
           rfl), rfl⟩
    · skip
      try simp only [decide_eq_false_iff_not, decide_eq_true_eq, Int.not_lt, Int.not_le, Bool.not_eq_false, Bool.not_eq_true, Bool.not_true, Bool.not_false, Bool.not_eq_true', Bool.not_eq_false', beq_eq_false_iff_ne, ne_eq, beq_iff_eq, bne_iff_ne, bne_eq_false_iff_eq, Classical.not_not] at g28
      refine Cd.seq fun K55 hK55 => ?_
      refine Cd.plain [(0, false), (1, false)] rfl rfl ?_
      refine Jp.y 34 rfl (want_all rfl) rfl rfl Kp.true (Y.eql rfl rfl rfl) ?_
      refine Jp.y 33 rfl (want_all rfl) rfl rfl Kp.true (Y.assign rfl rfl) ?_
      refine Jp.done hK55 ?_
      refine Cd.cond rfl (fun g33 => ?_) (fun g33 => ?_)
      · skip
        try simp only [decide_eq_false_iff_not, decide_eq_true_eq, Int.not_lt, Int.not_le, Bool.not_eq_false, Bool.not_eq_true, Bool.not_true, Bool.not_false, Bool.not_eq_true', Bool.not_eq_false', beq_eq_false_iff_ne, ne_eq, beq_iff_eq, bne_iff_ne, bne_eq_false_iff_eq, Classical.not_not] at g33
        refine Cd.seq fun K56 hK56 => ?_
        refine Cd.plain [(0, false), (1, false), (2, false), (3, false), (4, false), (5, false), (6, false), (7, false), (8, false), (9, false), (10, false)] rfl rfl ?_
        refine Jp.y 35 rfl (want_all rfl) rfl rfl Kp.true (Y.move rfl rfl) ?_
        refine Jp.y 36 rfl (want_all rfl) rfl rfl Kp.true (Y.conv_ rfl rfl Try.underlying25 Try.underlying21 (by first | exact wrap_i32 (by omega) (by omega) | rfl)) ?_
        refine Jp.y 37 rfl (want_all rfl) rfl rfl Kp.true (Y.conv_ rfl rfl Try.underlying21 Try.underlying2 (by first | exact wrap_i64 (by omega) (by omega) | rfl)) ?_
        refine Jp.y 38 rfl (want_all rfl) rfl rfl Kp.true (Y.move rfl rfl) ?_
        refine Jp.y 39 rfl (want_all rfl) rfl rfl Kp.true (Y.conv_ rfl rfl Try.underlying25 Try.underlying21 (by first | exact wrap_i32 (by omega) (by omega) | rfl)) ?_
        refine Jp.y 40 rfl (want_all rfl) rfl rfl Kp.true (Y.conv_ rfl rfl Try.underlying21 Try.underlying2 (by first | exact wrap_i64 (by omega) (by omega) | rfl)) ?_
        refine Jp.y 41 rfl (want_all rfl) rfl rfl Kp.true (Y.mul_ rfl rfl rfl (by first | exact wrap_i64 (by omega) (by omega) | rfl)) ?_
        refine Jp.y 42 rfl (want_all rfl) rfl rfl Kp.true (Y.shr rfl rfl rfl (by first | decide | omega)) ?_
        refine Jp.y 43 rfl (want_all rfl) rfl rfl Kp.true (Y.conv_ rfl rfl Try.underlying2 Try.underlying25 (by first | exact wrap_u32 (by omega) (by omega) | rfl)) ?_
        refine Jp.y 6 rfl (want_all rfl) rfl rfl Kp.true (Y.assign rfl rfl) ?_
        refine Jp.y 7 rfl (want_all rfl) rfl rfl Kp.true (Y.assign rfl rfl) ?_
        refine Jp.done hK56 ?_
        refine Cd.ret [] rfl (res2 rfl rfl rfl) trivial ⟨rfl, by
          first
          | (exfalso; omega)
          | (obtain rfl : k = 10 := by omega
             exact tup2 (wrap_u _))
          | (obtain rfl : k = 11 := by omega
             exact tup2 (by rw [ha64, hb64, wrap_i64 (by omega) (by omega)]; exact hi_shr _))
          | (obtain rfl : k = 12 := by omega
             exact tup2 (by rw [ha64, wrap_i64 (by omega) (by omega)]; exact hi_shr _))
          | (obtain rfl : k = 13 := by omega
             exact tup2 (hi_u64 hm3))
          | (obtain rfl : k = 14 := by omega
             rfl)
          | (obtain rfl : k = 15 := by omega
             rfl)
          | (obtain rfl : k = 16 := by omega
             rfl)
          | (obtain rfl : k = 17 := by omega
             rfl), rfl⟩
      · skip
        try simp only [decide_eq_false_iff_not, decide_eq_true_eq, Int.not_lt, Int.not_le, Bool.not_eq_false, Bool.not_eq_true, Bool.not_true, Bool.not_false, Bool.not_eq_true', Bool.not_eq_false', beq_eq_false_iff_ne, ne_eq, beq_iff_eq, bne_iff_ne, bne_eq_false_iff_eq, Classical.not_not] at g33
        refine Cd.seq fun K57 hK57 => ?_
        refine Cd.plain [(0, false), (1, false)] rfl rfl ?_
        refine Jp.y 45 rfl (want_all rfl) rfl rfl Kp.true (Y.eql rfl rfl rfl) ?_
        refine Jp.y 44 rfl (want_all rfl) rfl rfl Kp.true (Y.assign rfl rfl) ?_
        refine Jp.done hK57 ?_
        refine Cd.cond rfl (fun g44 => ?_) (fun g44 => ?_)
        · skip
          try simp only [decide_eq_false_iff_not, decide_eq_true_eq, Int.not_lt, Int.not_le, Bool.not_eq_false, Bool.not_eq_true, Bool.not_true, Bool.not_false, Bool.not_eq_true', Bool.not_eq_false', beq_eq_false_iff_ne, ne_eq, beq_iff_eq, bne_iff_ne, bne_eq_false_iff_eq, Classical.not_not] at g44
          refine Cd.seq fun K58 hK58 => ?_
          refine Cd.plain [(0, false), (1, false), (2, false), (3, false), (4, false), (5, false), (6, false), (7, false), (8, false), (9, false)] rfl rfl ?_
          refine Jp.y 46 rfl (want_all rfl) rfl rfl Kp.true (Y.move rfl rfl) ?_
          refine Jp.y 47 rfl (want_all rfl) rfl rfl Kp.true (Y.conv_ rfl rfl Try.underlying25 Try.underlying21 (by first | exact wrap_i32 (by omega) (by omega) | rfl)) ?_
          refine Jp.y 48 rfl (want_all rfl) rfl rfl Kp.true (Y.conv_ rfl rfl Try.underlying21 Try.underlying2 (by first | exact wrap_i64 (by omega) (by omega) | rfl)) ?_
          refine Jp.y 49 rfl (want_all rfl) rfl rfl Kp.true (Y.move rfl rfl) ?_
          refine Jp.y 50 rfl (want_all rfl) rfl rfl Kp.true (Y.conv_ rfl rfl Try.underlying25 Try.underlying2 (by first | exact wrap_i64 (by omega) (by omega) | rfl)) ?_
          refine Jp.y 51 rfl (want_all rfl) rfl rfl Kp.true (Y.mul_ rfl rfl rfl (by first | exact wrap_i64 (by omega) (by omega) | rfl)) ?_
          refine Jp.y 52 rfl (want_all rfl) rfl rfl Kp.true (Y.shr rfl rfl rfl (by first | decide | omega)) ?_
          refine Jp.y 53 rfl (want_all rfl) rfl rfl Kp.true (Y.conv_ rfl rfl Try.underlying2 Try.underlying25 (by first | exact wrap_u32 (by omega) (by omega) | rfl)) ?_
          refine Jp.y 6 rfl (want_all rfl) rfl rfl Kp.true (Y.assign rfl rfl) ?_
          refine Jp.y 7 rfl (want_all rfl) rfl rfl Kp.true (Y.assign rfl rfl) ?_
          refine Jp.done hK58 ?_
          refine Cd.ret [] rfl (res2 rfl rfl rfl) trivial ⟨rfl, by
            first
            | (exfalso; omega)
            | (obtain rfl : k = 10 := by omega
               exact tup2 (wrap_u _))
            | (obtain rfl : k = 11 := by omega
               exact tup2 (by rw [ha64, hb64, wrap_i64 (by omega) (by omega)]; exact hi_shr _))
            | (obtain rfl : k = 12 := by omega
               exact tup2 (by rw [ha64, wrap_i64 (by omega) (by omega)]; exact hi_shr _))
            | (obtain rfl : k = 13 := by omega
               exact tup2 (hi_u64 hm3))
            | (obtain rfl : k = 14 := by omega
               rfl)
            | (obtain rfl : k = 15 := by omega
               rfl)
            | (obtain rfl : k = 16 := by omega
               rfl)
            | (obtain rfl : k = 17 := by omega
               rfl), rfl⟩
        · skip
          try simp only [decide_eq_false_iff_not, decide_eq_true_eq, Int.not_lt, Int.not_le, Bool.not_eq_false, Bool.not_eq_true, Bool.not_true, Bool.not_false, Bool.not_eq_true', Bool.not_eq_false', beq_eq_false_iff_ne, ne_eq, beq_iff_eq, bne_iff_ne, bne_eq_false_iff_eq, Classical.not_not] at g44
          refine Cd.seq fun K59 hK59 => ?_
          refine Cd.plain [(0, false), (1, false)] rfl rfl ?_
          refine Jp.y 55 rfl (want_all rfl) rfl rfl Kp.true (Y.eql rfl rfl rfl) ?_
          refine Jp.y 54 rfl (want_all rfl) rfl rfl Kp.true (Y.assign rfl rfl) ?_
          refine Jp.done hK59 ?_
          refine Cd.cond rfl (fun g54 => ?_) (fun g54 => ?_)
          · skip
            try simp only [decide_eq_false_iff_not, decide_eq_true_eq, Int.not_lt, Int.not_le, Bool.not_eq_false, Bool.not_eq_true, Bool.not_true, Bool.not_false, Bool.not_eq_true', Bool.not_eq_false', beq_eq_false_iff_ne, ne_eq, beq_iff_eq, bne_iff_ne, bne_eq_false_iff_eq, Classical.not_not] at g54
            refine Cd.seq fun K60 hK60 => ?_
            refine Cd.plain [(0, false), (1, false), (2, false), (3, false), (4, false), (5, false), (6, false), (7, false), (8, false)] rfl rfl ?_
            refine Jp.y 56 rfl (want_all rfl) rfl rfl Kp.true (Y.move rfl rfl) ?_
            refine Jp.y 57 rfl (want_all rfl) rfl rfl Kp.true (Y.conv_ rfl rfl Try.underlying25 Try.underlying105 (by first | exact wrap_u64 (by omega) (by omega) | rfl)) ?_
            refine Jp.y 58 rfl (want_all rfl) rfl rfl Kp.true (Y.move rfl rfl) ?_
            refine Jp.y 59 rfl (want_all rfl) rfl rfl Kp.true (Y.conv_ rfl rfl Try.underlying25 Try.underlying105 (by first | exact wrap_u64 (by omega) (by omega) | rfl)) ?_
            refine Jp.y 60 rfl (want_all rfl) rfl rfl Kp.true (Y.mul_ rfl rfl rfl (by first | exact wrap_u64 (by omega) (by omega) | rfl)) ?_
            refine Jp.y 61 rfl (want_all rfl) rfl rfl Kp.true (Y.shr rfl rfl rfl (by first | decide | omega)) ?_
            refine Jp.y 62 rfl (want_all rfl) rfl rfl Kp.true (Y.conv_ rfl rfl Try.underlying105 Try.underlying25 (by first | exact wrap_u32 (by omega) (by omega) | rfl)) ?_
            refine Jp.y 6 rfl (want_all rfl) rfl rfl Kp.true (Y.assign rfl rfl) ?_
            refine Jp.y 7 rfl (want_all rfl) rfl rfl Kp.true (Y.assign rfl rfl) ?_
            refine Jp.done hK60 ?_
            refine Cd.ret [] rfl (res2 rfl rfl rfl) trivial ⟨rfl, by
              first
              | (exfalso; omega)
              | (obtain rfl : k = 10 := by omega
                 exact tup2 (wrap_u _))
              | (obtain rfl : k = 11 := by omega
                 exact tup2 (by rw [ha64, hb64, wrap_i64 (by omega) (by omega)]; exact hi_shr _))
              | (obtain rfl : k = 12 := by omega
                 exact tup2 (by rw [ha64, wrap_i64 (by omega) (by omega)]; exact hi_shr _))
              | (obtain rfl : k = 13 := by omega
                 exact tup2 (hi_u64 hm3))
              | (obtain rfl : k = 14 := by omega
                 rfl)
              | (obtain rfl : k = 15 := by omega
                 rfl)
              | (obtain rfl : k = 16 := by omega
                 rfl)
              | (obtain rfl : k = 17 := by omega
                 rfl), rfl⟩
          · skip
            try simp only [decide_eq_false_iff_not, decide_eq_true_eq, Int.not_lt, Int.not_le, Bool.not_eq_false, Bool.not_eq_true, Bool.not_true, Bool.not_false, Bool.not_eq_true', Bool.not_eq_false', beq_eq_false_iff_ne, ne_eq, beq_iff_eq, bne_iff_ne, bne_eq_false_iff_eq, Classical.not_not] at g54
            refine Cd.seq fun K61 hK61 => ?_
            refine Cd.plain [(0, false), (1, false)] rfl rfl ?_
            refine Jp.y 64 rfl (want_all rfl) rfl rfl Kp.true (Y.eql rfl rfl rfl) ?_
            refine Jp.y 63 rfl (want_all rfl) rfl rfl Kp.true (Y.assign rfl rfl) ?_
            refine Jp.done hK61 ?_
            refine Cd.cond rfl (fun g63 => ?_) (fun g63 => ?_)
            · skip
              try simp only [decide_eq_false_iff_not, decide_eq_true_eq, Int.not_lt, Int.not_le, Bool.not_eq_false, Bool.not_eq_true, Bool.not_true, Bool.not_false, Bool.not_eq_true', Bool.not_eq_false', beq_eq_false_iff_ne, ne_eq, beq_iff_eq, bne_iff_ne, bne_eq_false_iff_eq, Classical.not_not] at g63
              refine Cd.seq fun K62 hK62 => ?_
              refine Cd.plain [(0, false), (1, false), (2, false), (3, false), (4, false), (5, false), (6, false), (7, false)] rfl rfl ?_
              refine Jp.y 66 rfl (want_all rfl) rfl rfl Kp.true (Y.move rfl rfl) ?_
              refine Jp.y 67 rfl (want_all rfl) rfl rfl Kp.true (Y.move rfl rfl) ?_
              refine Jp.call [] [] (divide_spec a b ha hb) 68 rfl (want_all rfl) rfl rfl (Runs.fn rfl Try.call36 rfl) (by decide) (by decide) rfl trivial ?_
              rintro v103 ρ103 L103 ⟨rfl, rfl, rfl⟩
              refine ⟨rfl, fun hle103 => ⟨Kp.true, ?_⟩⟩
              refine Jp.y 65 rfl (want_all rfl) rfl rfl Kp.true (Y.move rfl rfl) ?_
              refine Jp.y 69 rfl (want_all rfl) rfl rfl Kp.true (Y.extract rfl rfl rfl) ?_
              refine Jp.y 70 rfl (want_all rfl) rfl rfl Kp.true (Y.extract rfl rfl rfl) ?_
              refine Jp.y 10 rfl (want_all rfl) rfl rfl Kp.true (Y.assign rfl rfl) ?_
              refine Jp.y 11 rfl (want_all rfl) rfl rfl Kp.true (Y.assign rfl rfl) ?_
              refine Jp.done hK62 ?_
              refine Cd.seq fun K63 hK63 => ?_
              refine Cd.plain [(0, false), (1, false), (2, false)] rfl rfl ?_
              refine Jp.y 71 rfl (want_all rfl) rfl rfl Kp.true (Y.move rfl rfl) ?_
              refine Jp.y 6 rfl (want_all rfl) rfl rfl Kp.true (Y.assign rfl rfl) ?_
              refine Jp.y 7 rfl (want_all rfl) rfl rfl Kp.true (Y.assign rfl rfl) ?_
              refine Jp.done hK63 ?_
              refine Cd.ret [] rfl (res2 rfl rfl rfl) trivial ⟨rfl, by
                first
                | (exfalso; omega)
                | (obtain rfl : k = 10 := by omega
                   exact tup2 (wrap_u _))
                | (obtain rfl : k = 11 := by omega
                   exact tup2 (by rw [ha64, hb64, wrap_i64 (by omega) (by omega)]; exact hi_shr _))
                | (obtain rfl : k = 12 := by omega
                   exact tup2 (by rw [ha64, wrap_i64 (by omega) (by omega)]; exact hi_shr _))
                | (obtain rfl : k = 13 := by omega
                   exact tup2 (hi_u64 hm3))
                | (obtain rfl : k = 14 := by omega
                   rfl)
                | (obtain rfl : k = 15 := by omega
                   rfl)
                | (obtain rfl : k = 16 := by omega
                   rfl)
                | (obtain rfl : k = 17 := by omega
                   rfl), rfl⟩
            · skip
              try simp only [decide_eq_false_iff_not, decide_eq_true_eq, Int.not_lt, Int.not_le, Bool.not_eq_false, Bool.not_eq_true, Bool.not_true, Bool.not_false, Bool.not_eq_true', Bool.not_eq_false', beq_eq_false_iff_ne, ne_eq, beq_iff_eq, bne_iff_ne, bne_eq_false_iff_eq, Classical.not_not] at g63
              refine Cd.seq fun K64 hK64 => ?_
              refine Cd.plain [(0, false), (1, false)] rfl rfl ?_
              refine Jp.y 73 rfl (want_all rfl) rfl rfl Kp.true (Y.eql rfl rfl rfl) ?_
              refine Jp.y 72 rfl (want_all rfl) rfl rfl Kp.true (Y.assign rfl rfl) ?_
              refine Jp.done hK64 ?_
              refine Cd.cond rfl (fun g72 => ?_) (fun g72 => ?_)
              · skip
                try simp only [decide_eq_false_iff_not, decide_eq_true_eq, Int.not_lt, Int.not_le, Bool.not_eq_false, Bool.not_eq_true, Bool.not_true, Bool.not_false, Bool.not_eq_true', Bool.not_eq_false', beq_eq_false_iff_ne, ne_eq, beq_iff_eq, bne_iff_ne, bne_eq_false_iff_eq, Classical.not_not] at g72
                refine Cd.seq fun K65 hK65 => ?_
                refine Cd.plain [(0, false), (1, false), (2, false), (3, false), (4, false), (5, false), (6, false), (7, false)] rfl rfl ?_
                refine Jp.y 75 rfl (want_all rfl) rfl rfl Kp.true (Y.move rfl rfl) ?_
                refine Jp.y 76 rfl (want_all rfl) rfl rfl Kp.true (Y.move rfl rfl) ?_
                refine Jp.call [] [] (divideu_spec a b ha hb) 77 rfl (want_all rfl) rfl rfl (Runs.fn rfl Try.call37 rfl) (by decide) (by decide) rfl trivial ?_
                rintro v104 ρ104 L104 ⟨rfl, rfl, rfl⟩
                refine ⟨rfl, fun hle104 => ⟨Kp.true, ?_⟩⟩
                refine Jp.y 74 rfl (want_all rfl) rfl rfl Kp.true (Y.move rfl rfl) ?_
                refine Jp.y 78 rfl (want_all rfl) rfl rfl Kp.true (Y.extract rfl rfl rfl) ?_
                refine Jp.y 79 rfl (want_all rfl) rfl rfl Kp.true (Y.extract rfl rfl rfl) ?_
                refine Jp.y 12 rfl (want_all rfl) rfl rfl Kp.true (Y.assign rfl rfl) ?_
                refine Jp.y 13 rfl (want_all rfl) rfl rfl Kp.true (Y.assign rfl rfl) ?_
                refine Jp.done hK65 ?_
                refine Cd.seq fun K66 hK66 => ?_
                refine Cd.plain [(0, false), (1, false), (2, false)] rfl rfl ?_
                refine Jp.y 80 rfl (want_all rfl) rfl rfl Kp.true (Y.move rfl rfl) ?_
                refine Jp.y 6 rfl (want_all rfl) rfl rfl Kp.true (Y.assign rfl rfl) ?_
                refine Jp.y 7 rfl (want_all rfl) rfl rfl Kp.true (Y.assign rfl rfl) ?_
                refine Jp.done hK66 ?_
                refine Cd.ret [] rfl (res2 rfl rfl rfl) trivial ⟨rfl, by
                  first
                  | (exfalso; omega)
                  | (obtain rfl : k = 10 := by omega
                     exact tup2 (wrap_u _))
                  | (obtain rfl : k = 11 := by omega
                     exact tup2 (by rw [ha64, hb64, wrap_i64 (by omega) (by omega)]; exact hi_shr _))
                  | (obtain rfl : k = 12 := by omega
                     exact tup2 (by rw [ha64, wrap_i64 (by omega) (by omega)]; exact hi_shr _))
                  | (obtain rfl : k = 13 := by omega
                     exact tup2 (hi_u64 hm3))
                  | (obtain rfl : k = 14 := by omega
                     rfl)
                  | (obtain rfl : k = 15 := by omega
                     rfl)
                  | (obtain rfl : k = 16 := by omega
                     rfl)
                  | (obtain rfl : k = 17 := by omega
                     rfl), rfl⟩
              · skip
                try simp only [decide_eq_false_iff_not, decide_eq_true_eq, Int.not_lt, Int.not_le, Bool.not_eq_false, Bool.not_eq_true, Bool.not_true, Bool.not_false, Bool.not_eq_true', Bool.not_eq_false', beq_eq_false_iff_ne, ne_eq, beq_iff_eq, bne_iff_ne, bne_eq_false_iff_eq, Classical.not_not] at g72
                refine Cd.seq fun K67 hK67 => ?_
                refine Cd.plain [(0, false), (1, false)] rfl rfl ?_
                refine Jp.y 82 rfl (want_all rfl) rfl rfl Kp.true (Y.eql rfl rfl rfl) ?_
                refine Jp.y 81 rfl (want_all rfl) rfl rfl Kp.true (Y.assign rfl rfl) ?_
                refine Jp.done hK67 ?_
                refine Cd.cond rfl (fun g81 => ?_) (fun g81 => ?_)
                · skip
                  try simp only [decide_eq_false_iff_not, decide_eq_true_eq, Int.not_lt, Int.not_le, Bool.not_eq_false, Bool.not_eq_true, Bool.not_true, Bool.not_false, Bool.not_eq_true', Bool.not_eq_false', beq_eq_false_iff_ne, ne_eq, beq_iff_eq, bne_iff_ne, bne_eq_false_iff_eq, Classical.not_not] at g81
                  refine Cd.seq fun K68 hK68 => ?_
                  refine Cd.plain [(0, false), (1, false), (2, false), (3, false), (4, false), (5, false), (6, false), (7, false)] rfl rfl ?_
                  refine Jp.y 84 rfl (want_all rfl) rfl rfl Kp.true (Y.move rfl rfl) ?_
                  refine Jp.y 85 rfl (want_all rfl) rfl rfl Kp.true (Y.move rfl rfl) ?_
                  refine Jp.call [] [] (divide_spec a b ha hb) 86 rfl (want_all rfl) rfl rfl (Runs.fn rfl Try.call36 rfl) (by decide) (by decide) rfl trivial ?_
                  rintro v105 ρ105 L105 ⟨rfl, rfl, rfl⟩
                  refine ⟨rfl, fun hle105 => ⟨Kp.true, ?_⟩⟩
                  refine Jp.y 83 rfl (want_all rfl) rfl rfl Kp.true (Y.move rfl rfl) ?_
                  refine Jp.y 87 rfl (want_all rfl) rfl rfl Kp.true (Y.extract rfl rfl rfl) ?_
                  refine Jp.y 88 rfl (want_all rfl) rfl rfl Kp.true (Y.extract rfl rfl rfl) ?_
                  refine Jp.y 14 rfl (want_all rfl) rfl rfl Kp.true (Y.assign rfl rfl) ?_
                  refine Jp.y 15 rfl (want_all rfl) rfl rfl Kp.true (Y.assign rfl rfl) ?_
                  refine Jp.done hK68 ?_
                  refine Cd.seq fun K69 hK69 => ?_
                  refine Cd.plain [(0, false), (1, false), (2, false)] rfl rfl ?_
                  refine Jp.y 89 rfl (want_all rfl) rfl rfl Kp.true (Y.move rfl rfl) ?_
                  refine Jp.y 6 rfl (want_all rfl) rfl rfl Kp.true (Y.assign rfl rfl) ?_
                  refine Jp.y 7 rfl (want_all rfl) rfl rfl Kp.true (Y.assign rfl rfl) ?_
                  refine Jp.done hK69 ?_
                  refine Cd.ret [] rfl (res2 rfl rfl rfl) trivial ⟨rfl, by
                    first
                    | (exfalso; omega)
                    | (obtain rfl : k = 10 := by omega
                       exact tup2 (wrap_u _))
                    | (obtain rfl : k = 11 := by omega
                       exact tup2 (by rw [ha64, hb64, wrap_i64 (by omega) (by omega)]; exact hi_shr _))
                    | (obtain rfl : k = 12 := by omega
                       exact tup2 (by rw [ha64, wrap_i64 (by omega) (by omega)]; exact hi_shr _))
                    | (obtain rfl : k = 13 := by omega
                       exact tup2 (hi_u64 hm3))
                    | (obtain rfl : k = 14 := by omega
                       rfl)
                    | (obtain rfl : k = 15 := by omega
                       rfl)
                    | (obtain rfl : k = 16 := by omega
                       rfl)
                    | (obtain rfl : k = 17 := by omega
                       rfl), rfl⟩
                · skip
                  try simp only [decide_eq_false_iff_not, decide_eq_true_eq, Int.not_lt, Int.not_le, Bool.not_eq_false, Bool.not_eq_true, Bool.not_true, Bool.not_false, Bool.not_eq_true', Bool.not_eq_false', beq_eq_false_iff_ne, ne_eq, beq_iff_eq, bne_iff_ne, bne_eq_false_iff_eq, Classical.not_not] at g81
                  refine Cd.seq fun K70 hK70 => ?_
                  refine Cd.plain [(0, false), (1, false)] rfl rfl ?_
                  refine Jp.y 91 rfl (want_all rfl) rfl rfl Kp.true (Y.eql rfl rfl rfl) ?_
                  refine Jp.y 90 rfl (want_all rfl) rfl rfl Kp.true (Y.assign rfl rfl) ?_
                  refine Jp.done hK70 ?_
                  refine Cd.cond rfl (fun g90 => ?_) (fun g90 => ?_)
                  · skip
                    try simp only [decide_eq_false_iff_not, decide_eq_true_eq, Int.not_lt, Int.not_le, Bool.not_eq_false, Bool.not_eq_true, Bool.not_true, Bool.not_false, Bool.not_eq_true', Bool.not_eq_false', beq_eq_false_iff_ne, ne_eq, beq_iff_eq, bne_iff_ne, bne_eq_false_iff_eq, Classical.not_not] at g90
                    refine Cd.seq fun K71 hK71 => ?_
                    refine Cd.plain [(0, false), (1, false), (2, false), (3, false), (4, false), (5, false), (6, false), (7, false)] rfl rfl ?_
                    refine Jp.y 93 rfl (want_all rfl) rfl rfl Kp.true (Y.move rfl rfl) ?_
                    refine Jp.y 94 rfl (want_all rfl) rfl rfl Kp.true (Y.move rfl rfl) ?_
                    refine Jp.call [] [] (divideu_spec a b ha hb) 95 rfl (want_all rfl) rfl rfl (Runs.fn rfl Try.call37 rfl) (by decide) (by decide) rfl trivial ?_
                    rintro v106 ρ106 L106 ⟨rfl, rfl, rfl⟩
                    refine ⟨rfl, fun hle106 => ⟨Kp.true, ?_⟩⟩
                    refine Jp.y 92 rfl (want_all rfl) rfl rfl Kp.true (Y.move rfl rfl) ?_
                    refine Jp.y 96 rfl (want_all rfl) rfl rfl Kp.true (Y.extract rfl rfl rfl) ?_
                    refine Jp.y 97 rfl (want_all rfl) rfl rfl Kp.true (Y.extract rfl rfl rfl) ?_
                    refine Jp.y 16 rfl (want_all rfl) rfl rfl Kp.true (Y.assign rfl rfl) ?_
                    refine Jp.y 17 rfl (want_all rfl) rfl rfl Kp.true (Y.assign rfl rfl) ?_
                    refine Jp.done hK71 ?_
                    refine Cd.seq fun K72 hK72 => ?_
                    refine Cd.plain [(0, false), (1, false), (2, false)] rfl rfl ?_
                    refine Jp.y 98 rfl (want_all rfl) rfl rfl Kp.true (Y.move rfl rfl) ?_
                    refine Jp.y 6 rfl (want_all rfl) rfl rfl Kp.true (Y.assign rfl rfl) ?_
                    refine Jp.y 7 rfl (want_all rfl) rfl rfl Kp.true (Y.assign rfl rfl) ?_
                    refine Jp.done hK72 ?_
                    refine Cd.ret [] rfl (res2 rfl rfl rfl) trivial ⟨rfl, by
                      first
                      | (exfalso; omega)
                      | (obtain rfl : k = 10 := by omega
                         exact tup2 (wrap_u _))
                      | (obtain rfl : k = 11 := by omega
                         exact tup2 (by rw [ha64, hb64, wrap_i64 (by omega) (by omega)]; exact hi_shr _))
                      | (obtain rfl : k = 12 := by omega
                         exact tup2 (by rw [ha64, wrap_i64 (by omega) (by omega)]; exact hi_shr _))
                      | (obtain rfl : k = 13 := by omega
                         exact tup2 (hi_u64 hm3))
                      | (obtain rfl : k = 14 := by omega
                         rfl)
                      | (obtain rfl : k = 15 := by omega
                         rfl)
                      | (obtain rfl : k = 16 := by omega
                         rfl)
                      | (obtain rfl : k = 17 := by omega
                         rfl), rfl⟩
                  · skip
                    try simp only [decide_eq_false_iff_not, decide_eq_true_eq, Int.not_lt, Int.not_le, Bool.not_eq_false, Bool.not_eq_true, Bool.not_true, Bool.not_false, Bool.not_eq_true', Bool.not_eq_false', beq_eq_false_iff_ne, ne_eq, beq_iff_eq, bne_iff_ne, bne_eq_false_iff_eq, Classical.not_not] at g90
                    refine Cd.over rfl hK51 ?_
                    refine Cd.seq fun K73 hK73 => ?_
                    refine Cd.plain [(0, false), (1, false)] rfl rfl ?_
                    refine Jp.y 6 rfl (want_all rfl) rfl rfl Kp.true (Y.assign rfl rfl) ?_
                    refine Jp.y 7 rfl (want_all rfl) rfl rfl Kp.true (Y.assign rfl rfl) ?_
                    refine Jp.done hK73 ?_
                    refine Cd.ret [] rfl (res2 rfl rfl rfl) trivial ⟨rfl, by
                      first
                      | (exfalso; omega)
                      | (obtain rfl : k = 10 := by omega
                         exact tup2 (wrap_u _))
                      | (obtain rfl : k = 11 := by omega
                         exact tup2 (by rw [ha64, hb64, wrap_i64 (by omega) (by omega)]; exact hi_shr _))
                      | (obtain rfl : k = 12 := by omega
                         exact tup2 (by rw [ha64, wrap_i64 (by omega) (by omega)]; exact hi_shr _))
                      | (obtain rfl : k = 13 := by omega
                         exact tup2 (hi_u64 hm3))
                      | (obtain rfl : k = 14 := by omega
                         rfl)
                      | (obtain rfl : k = 15 := by omega
                         rfl)
                      | (obtain rfl : k = 16 := by omega
                         rfl)
                      | (obtain rfl : k = 17 := by omega
                         rfl), rfl⟩
theorem test0 (a b : Nat) : ((a : Int) == b) = testP 0 a b := by
  show _ = decide (a = b)
  rw [Bool.eq_iff_iff]; simp only [beq_iff_eq, decide_eq_true_eq]; omega
theorem test1 (a b : Nat) : ((a : Int) != b) = testP 1 a b := by
  show _ = decide (a ≠ b)
  rw [Bool.eq_iff_iff]; simp only [bne_iff_ne, ne_eq, decide_eq_true_eq]; omega
theorem test6 (a b : Nat) : decide ((a : Int) < b) = testP 6 a b := by
  show _ = decide (a < b)
  rw [Bool.eq_iff_iff]; simp only [decide_eq_true_eq]; omega
theorem test7 (a b : Nat) : decide ((b : Int) ≤ a) = testP 7 a b := by
  show _ = decide (b ≤ a)
  rw [Bool.eq_iff_iff]; simp only [decide_eq_true_eq]; omega
theorem tupB {x y : Bool} {w : Value} (h : x = y) : Value.tuple #[.bool x, w] = .tuple #[.bool y, w] := by rw [h]
theorem test_spec (k a b : Nat) (hk : k = 0 ∨ k = 1 ∨ 4 ≤ k ∧ k ≤ 7) (ha : a < 4294967296) (hb : b < 4294967296) : Spec Try.prog 89 #[.int .i64 k, .int .u32 a, .int .u32 b] (fun _ => True) []
    (fun ρ ρ' v L => ρ' = ρ ∧ v = .tuple #[.bool (testP k a b), .int .i64 0] ∧ L = []) := by
  refine Spec.of 43 Try.func89 rfl Try.ntmps89 [(0, _), (1, _), (2, _)] rfl rfl ?_
  intro cx ρ hr h0
  refine Cd.seq fun K74 hK74 => ?_
  refine Cd.plain [(0, false), (1, false)] rfl rfl ?_
  refine Jp.y 6 rfl (want_all rfl) rfl rfl Kp.true (Y.assign rfl rfl) ?_
  refine Jp.y 7 rfl (want_all rfl) rfl rfl Kp.true (Y.assign rfl rfl) ?_
  refine Jp.done hK74 ?_
  refine Cd.seq fun K75 hK75 => ?_
  refine Cd.seq fun K76 hK76 => ?_
  refine Cd.plain [(0, false)] rfl rfl ?_
  refine Jp.y 8 rfl (want_all rfl) rfl rfl Kp.true (Y.move rfl rfl) ?_
  refine Jp.done hK76 ?_
  refine Cd.block ?_
  refine Cd.seq fun K77 hK77 => ?_
  refine Cd.plain [(0, false), (1, false)] rfl rfl ?_
  refine Jp.y 10 rfl (want_all rfl) rfl rfl Kp.true (Y.eql rfl rfl rfl) ?_
  refine Jp.y 9 rfl (want_all rfl) rfl rfl Kp.true (Y.assign rfl rfl) ?_
  refine Jp.done hK77 ?_
  refine Cd.cond rfl (fun g9 => ?_) (fun g9 => ?_)
  · skip
    try simp only [decide_eq_false_iff_not, decide_eq_true_eq, Int.not_lt, Int.not_le, Bool.not_eq_false, Bool.not_eq_true, Bool.not_true, Bool.not_false, Bool.not_eq_true', Bool.not_eq_false', beq_eq_false_iff_ne, ne_eq, beq_iff_eq, bne_iff_ne, bne_eq_false_iff_eq, Classical.not_not] at g9
    refine Cd.seq fun K78 hK78 => ?_
    refine Cd.plain [(0, false), (1, false), (2, false), (3, false), (4, false)] rfl rfl ?_
    refine Jp.y 11 rfl (want_all rfl) rfl rfl Kp.true (Y.move rfl rfl) ?_
    refine Jp.y 12 rfl (want_all rfl) rfl rfl Kp.true (Y.move rfl rfl) ?_
    refine Jp.y 13 rfl (want_all rfl) rfl rfl Kp.true (Y.eql rfl rfl rfl) ?_
    refine Jp.y 6 rfl (want_all rfl) rfl rfl Kp.true (Y.assign rfl rfl) ?_
    refine Jp.y 7 rfl (want_all rfl) rfl rfl Kp.true (Y.assign rfl rfl) ?_
    refine Jp.done hK78 ?_
    refine Cd.ret [] rfl (res2 rfl rfl rfl) trivial ⟨rfl, by
      first
      | (exfalso; omega)
      | (obtain rfl : k = 0 := by omega
         exact tupB (test0 a b))
      | (obtain rfl : k = 1 := by omega
         exact tupB (test1 a b))
      | (obtain rfl : k = 4 := by omega
         rfl)
      | (obtain rfl : k = 5 := by omega
         rfl)
      | (obtain rfl : k = 6 := by omega
         exact tupB (test6 a b))
      | (obtain rfl : k = 7 := by omega
         exact tupB (test7 a b)), rfl⟩
  · skip
    try simp only [decide_eq_false_iff_not, decide_eq_true_eq, Int.not_lt, Int.not_le, Bool.not_eq_false, Bool.not_eq_true, Bool.not_true, Bool.not_false, Bool.not_eq_true', Bool.not_eq_false', beq_eq_false_iff_ne, ne_eq, beq_iff_eq, bne_iff_ne, bne_eq_false_iff_eq, Classical.not_not] at g9
    refine Cd.seq fun K79 hK79 => ?_
    refine Cd.plain [(0, false), (1, false)] rfl rfl ?_
    refine Jp.y 15 rfl (want_all rfl) rfl rfl Kp.true (Y.eql rfl rfl rfl) ?_
    refine Jp.y 14 rfl (want_all rfl) rfl rfl Kp.true (Y.assign rfl rfl) ?_
    refine Jp.done hK79 ?_
    refine Cd.cond rfl (fun g14 => ?_) (fun g14 => ?_)
    · skip
      try simp only [decide_eq_false_iff_not, decide_eq_true_eq, Int.not_lt, Int.not_le, Bool.not_eq_false, Bool.not_eq_true, Bool.not_true, Bool.not_false, Bool.not_eq_true', Bool.not_eq_false', beq_eq_false_iff_ne, ne_eq, beq_iff_eq, bne_iff_ne, bne_eq_false_iff_eq, Classical.not_not] at g14
      refine Cd.seq fun K80 hK80 => ?_
      refine Cd.plain [(0, false), (1, false), (2, false), (3, false), (4, false)] rfl rfl ?_
      refine Jp.y 16 rfl (want_all rfl) rfl rfl Kp.true (Y.move rfl rfl) ?_
      refine Jp.y 17 rfl (want_all rfl) rfl rfl Kp.true (Y.move rfl rfl) ?_
      refine Jp.y 18 rfl (want_all rfl) rfl rfl Kp.true (Y.neq rfl rfl rfl) ?_
      refine Jp.y 6 rfl (want_all rfl) rfl rfl Kp.true (Y.assign rfl rfl) ?_
      refine Jp.y 7 rfl (want_all rfl) rfl rfl Kp.true (Y.assign rfl rfl) ?_
      refine Jp.done hK80 ?_
      refine Cd.ret [] rfl (res2 rfl rfl rfl) trivial ⟨rfl, by
        first
        | (exfalso; omega)
        | (obtain rfl : k = 0 := by omega
           exact tupB (test0 a b))
        | (obtain rfl : k = 1 := by omega
           exact tupB (test1 a b))
        | (obtain rfl : k = 4 := by omega
           rfl)
        | (obtain rfl : k = 5 := by omega
           rfl)
        | (obtain rfl : k = 6 := by omega
           exact tupB (test6 a b))
        | (obtain rfl : k = 7 := by omega
           exact tupB (test7 a b)), rfl⟩
    · skip
      try simp only [decide_eq_false_iff_not, decide_eq_true_eq, Int.not_lt, Int.not_le, Bool.not_eq_false, Bool.not_eq_true, Bool.not_true, Bool.not_false, Bool.not_eq_true', Bool.not_eq_false', beq_eq_false_iff_ne, ne_eq, beq_iff_eq, bne_iff_ne, bne_eq_false_iff_eq, Classical.not_not] at g14
      refine Cd.seq fun K81 hK81 => ?_
      refine Cd.plain [(0, false), (1, false)] rfl rfl ?_
      refine Jp.y 20 rfl (want_all rfl) rfl rfl Kp.true (Y.eql rfl rfl rfl) ?_
      refine Jp.y 19 rfl (want_all rfl) rfl rfl Kp.true (Y.assign rfl rfl) ?_
      refine Jp.done hK81 ?_
      refine Cd.cond rfl (fun g19 => ?_) (fun g19 => ?_)
      · skip
        try simp only [decide_eq_false_iff_not, decide_eq_true_eq, Int.not_lt, Int.not_le, Bool.not_eq_false, Bool.not_eq_true, Bool.not_true, Bool.not_false, Bool.not_eq_true', Bool.not_eq_false', beq_eq_false_iff_ne, ne_eq, beq_iff_eq, bne_iff_ne, bne_eq_false_iff_eq, Classical.not_not] at g19
        refine Cd.seq fun K82 hK82 => ?_
        refine Cd.plain [(0, false), (1, false), (2, false), (3, false), (4, false), (5, false), (6, false)] rfl rfl ?_
        refine Jp.y 21 rfl (want_all rfl) rfl rfl Kp.true (Y.move rfl rfl) ?_
        refine Jp.y 22 rfl (want_all rfl) rfl rfl Kp.true (Y.conv_ rfl rfl Try.underlying25 Try.underlying21 (by first | exact wrap_i32 (by omega) (by omega) | rfl)) ?_
        refine Jp.y 23 rfl (want_all rfl) rfl rfl Kp.true (Y.move rfl rfl) ?_
        refine Jp.y 24 rfl (want_all rfl) rfl rfl Kp.true (Y.conv_ rfl rfl Try.underlying25 Try.underlying21 (by first | exact wrap_i32 (by omega) (by omega) | rfl)) ?_
        refine Jp.y 25 rfl (want_all rfl) rfl rfl Kp.true (Y.lss rfl rfl rfl) ?_
        refine Jp.y 6 rfl (want_all rfl) rfl rfl Kp.true (Y.assign rfl rfl) ?_
        refine Jp.y 7 rfl (want_all rfl) rfl rfl Kp.true (Y.assign rfl rfl) ?_
        refine Jp.done hK82 ?_
        refine Cd.ret [] rfl (res2 rfl rfl rfl) trivial ⟨rfl, by
          first
          | (exfalso; omega)
          | (obtain rfl : k = 0 := by omega
             exact tupB (test0 a b))
          | (obtain rfl : k = 1 := by omega
             exact tupB (test1 a b))
          | (obtain rfl : k = 4 := by omega
             rfl)
          | (obtain rfl : k = 5 := by omega
             rfl)
          | (obtain rfl : k = 6 := by omega
             exact tupB (test6 a b))
          | (obtain rfl : k = 7 := by omega
             exact tupB (test7 a b)), rfl⟩
      · skip
        try simp only [decide_eq_false_iff_not, decide_eq_true_eq, Int.not_lt, Int.not_le, Bool.not_eq_false, Bool.not_eq_true, Bool.not_true, Bool.not_false, Bool.not_eq_true', Bool.not_eq_false', beq_eq_false_iff_ne, ne_eq, beq_iff_eq, bne_iff_ne, bne_eq_false_iff_eq, Classical.not_not] at g19
        refine Cd.seq fun K83 hK83 => ?_
        refine Cd.plain [(0, false), (1, false)] rfl rfl ?_
        refine Jp.y 27 rfl (want_all rfl) rfl rfl Kp.true (Y.eql rfl rfl rfl) ?_
        refine Jp.y 26 rfl (want_all rfl) rfl rfl Kp.true (Y.assign rfl rfl) ?_
        refine Jp.done hK83 ?_
        refine Cd.cond rfl (fun g26 => ?_) (fun g26 => ?_)
        · skip
          try simp only [decide_eq_false_iff_not, decide_eq_true_eq, Int.not_lt, Int.not_le, Bool.not_eq_false, Bool.not_eq_true, Bool.not_true, Bool.not_false, Bool.not_eq_true', Bool.not_eq_false', beq_eq_false_iff_ne, ne_eq, beq_iff_eq, bne_iff_ne, bne_eq_false_iff_eq, Classical.not_not] at g26
          refine Cd.seq fun K84 hK84 => ?_
          refine Cd.plain [(0, false), (1, false), (2, false), (3, false), (4, false), (5, false), (6, false)] rfl rfl ?_
          refine Jp.y 28 rfl (want_all rfl) rfl rfl Kp.true (Y.move rfl rfl) ?_
          refine Jp.y 29 rfl (want_all rfl) rfl rfl Kp.true (Y.conv_ rfl rfl Try.underlying25 Try.underlying21 (by first | exact wrap_i32 (by omega) (by omega) | rfl)) ?_
          refine Jp.y 30 rfl (want_all rfl) rfl rfl Kp.true (Y.move rfl rfl) ?_
          refine Jp.y 31 rfl (want_all rfl) rfl rfl Kp.true (Y.conv_ rfl rfl Try.underlying25 Try.underlying21 (by first | exact wrap_i32 (by omega) (by omega) | rfl)) ?_
          refine Jp.y 32 rfl (want_all rfl) rfl rfl Kp.true (Y.geq rfl rfl rfl) ?_
          refine Jp.y 6 rfl (want_all rfl) rfl rfl Kp.true (Y.assign rfl rfl) ?_
          refine Jp.y 7 rfl (want_all rfl) rfl rfl Kp.true (Y.assign rfl rfl) ?_
          refine Jp.done hK84 ?_
          refine Cd.ret [] rfl (res2 rfl rfl rfl) trivial ⟨rfl, by
            first
            | (exfalso; omega)
            | (obtain rfl : k = 0 := by omega
               exact tupB (test0 a b))
            | (obtain rfl : k = 1 := by omega
               exact tupB (test1 a b))
            | (obtain rfl : k = 4 := by omega
               rfl)
            | (obtain rfl : k = 5 := by omega
               rfl)
            | (obtain rfl : k = 6 := by omega
               exact tupB (test6 a b))
            | (obtain rfl : k = 7 := by omega
               exact tupB (test7 a b)), rfl⟩
        · skip
          try simp only [decide_eq_false_iff_not, decide_eq_true_eq, Int.not_lt, Int.not_le, Bool.not_eq_false, Bool.not_eq_true, Bool.not_true, Bool.not_false, Bool.not_eq_true', Bool.not_eq_false', beq_eq_false_iff_ne, ne_eq, beq_iff_eq, bne_iff_ne, bne_eq_false_iff_eq, Classical.not_not] at g26
          refine Cd.seq fun K85 hK85 => ?_
          refine Cd.plain [(0, false), (1, false)] rfl rfl ?_
          refine Jp.y 34 rfl (want_all rfl) rfl rfl Kp.true (Y.eql rfl rfl rfl) ?_
          refine Jp.y 33 rfl (want_all rfl) rfl rfl Kp.true (Y.assign rfl rfl) ?_
          refine Jp.done hK85 ?_
          refine Cd.cond rfl (fun g33 => ?_) (fun g33 => ?_)
          · skip
            try simp only [decide_eq_false_iff_not, decide_eq_true_eq, Int.not_lt, Int.not_le, Bool.not_eq_false, Bool.not_eq_true, Bool.not_true, Bool.not_false, Bool.not_eq_true', Bool.not_eq_false', beq_eq_false_iff_ne, ne_eq, beq_iff_eq, bne_iff_ne, bne_eq_false_iff_eq, Classical.not_not] at g33
            refine Cd.seq fun K86 hK86 => ?_
            refine Cd.plain [(0, false), (1, false), (2, false), (3, false), (4, false)] rfl rfl ?_
            refine Jp.y 35 rfl (want_all rfl) rfl rfl Kp.true (Y.move rfl rfl) ?_
            refine Jp.y 36 rfl (want_all rfl) rfl rfl Kp.true (Y.move rfl rfl) ?_
            refine Jp.y 37 rfl (want_all rfl) rfl rfl Kp.true (Y.lss rfl rfl rfl) ?_
            refine Jp.y 6 rfl (want_all rfl) rfl rfl Kp.true (Y.assign rfl rfl) ?_
            refine Jp.y 7 rfl (want_all rfl) rfl rfl Kp.true (Y.assign rfl rfl) ?_
            refine Jp.done hK86 ?_
            refine Cd.ret [] rfl (res2 rfl rfl rfl) trivial ⟨rfl, by
              first
              | (exfalso; omega)
              | (obtain rfl : k = 0 := by omega
                 exact tupB (test0 a b))
              | (obtain rfl : k = 1 := by omega
                 exact tupB (test1 a b))
              | (obtain rfl : k = 4 := by omega
                 rfl)
              | (obtain rfl : k = 5 := by omega
                 rfl)
              | (obtain rfl : k = 6 := by omega
                 exact tupB (test6 a b))
              | (obtain rfl : k = 7 := by omega
                 exact tupB (test7 a b)), rfl⟩
          · skip
            try simp only [decide_eq_false_iff_not, decide_eq_true_eq, Int.not_lt, Int.not_le, Bool.not_eq_false, Bool.not_eq_true, Bool.not_true, Bool.not_false, Bool.not_eq_true', Bool.not_eq_false', beq_eq_false_iff_ne, ne_eq, beq_iff_eq, bne_iff_ne, bne_eq_false_iff_eq, Classical.not_not] at g33
            refine Cd.seq fun K87 hK87 => ?_
            refine Cd.plain [(0, false), (1, false)] rfl rfl ?_
            refine Jp.y 39 rfl (want_all rfl) rfl rfl Kp.true (Y.eql rfl rfl rfl) ?_
            refine Jp.y 38 rfl (want_all rfl) rfl rfl Kp.true (Y.assign rfl rfl) ?_
            refine Jp.done hK87 ?_
            refine Cd.cond rfl (fun g38 => ?_) (fun g38 => ?_)
            · skip
              try simp only [decide_eq_false_iff_not, decide_eq_true_eq, Int.not_lt, Int.not_le, Bool.not_eq_false, Bool.not_eq_true, Bool.not_true, Bool.not_false, Bool.not_eq_true', Bool.not_eq_false', beq_eq_false_iff_ne, ne_eq, beq_iff_eq, bne_iff_ne, bne_eq_false_iff_eq, Classical.not_not] at g38
              refine Cd.seq fun K88 hK88 => ?_
              refine Cd.plain [(0, false), (1, false), (2, false), (3, false), (4, false)] rfl rfl ?_
              refine Jp.y 40 rfl (want_all rfl) rfl rfl Kp.true (Y.move rfl rfl) ?_
              refine Jp.y 41 rfl (want_all rfl) rfl rfl Kp.true (Y.move rfl rfl) ?_
              refine Jp.y 42 rfl (want_all rfl) rfl rfl Kp.true (Y.geq rfl rfl rfl) ?_
              refine Jp.y 6 rfl (want_all rfl) rfl rfl Kp.true (Y.assign rfl rfl) ?_
              refine Jp.y 7 rfl (want_all rfl) rfl rfl Kp.true (Y.assign rfl rfl) ?_
              refine Jp.done hK88 ?_
              refine Cd.ret [] rfl (res2 rfl rfl rfl) trivial ⟨rfl, by
                first
                | (exfalso; omega)
                | (obtain rfl : k = 0 := by omega
                   exact tupB (test0 a b))
                | (obtain rfl : k = 1 := by omega
                   exact tupB (test1 a b))
                | (obtain rfl : k = 4 := by omega
                   rfl)
                | (obtain rfl : k = 5 := by omega
                   rfl)
                | (obtain rfl : k = 6 := by omega
                   exact tupB (test6 a b))
                | (obtain rfl : k = 7 := by omega
                   exact tupB (test7 a b)), rfl⟩
            · skip
              try simp only [decide_eq_false_iff_not, decide_eq_true_eq, Int.not_lt, Int.not_le, Bool.not_eq_false, Bool.not_eq_true, Bool.not_true, Bool.not_false, Bool.not_eq_true', Bool.not_eq_false', beq_eq_false_iff_ne, ne_eq, beq_iff_eq, bne_iff_ne, bne_eq_false_iff_eq, Classical.not_not] at g38
              refine Cd.over rfl hK75 ?_
              refine Cd.seq fun K89 hK89 => ?_
              refine Cd.plain [(0, false), (1, false)] rfl rfl ?_
              refine Jp.y 6 rfl (want_all rfl) rfl rfl Kp.true (Y.assign rfl rfl) ?_
              refine Jp.y 7 rfl (want_all rfl) rfl rfl Kp.true (Y.assign rfl rfl) ?_
              refine Jp.done hK89 ?_
              refine Cd.ret [] rfl (res2 rfl rfl rfl) trivial ⟨rfl, by
                first
                | (exfalso; omega)
                | (obtain rfl : k = 0 := by omega
                   exact tupB (test0 a b))
                | (obtain rfl : k = 1 := by omega
                   exact tupB (test1 a b))
                | (obtain rfl : k = 4 := by omega
                   rfl)
                | (obtain rfl : k = 5 := by omega
                   rfl)
                | (obtain rfl : k = 6 := by omega
                   exact tupB (test6 a b))
                | (obtain rfl : k = 7 := by omega
                   exact tupB (test7 a b)), rfl⟩
theorem wrap_i8u (v : Nat) : IntKind.u32.wrap (IntKind.i32.wrap (IntKind.i8.wrap (v : Int))) = ((if v % 256 < 128 then v % 256 else v % 256 + 4294967040 : Nat) : Int) := by
  rw [quo_s32, u32_cast]
  simp only [IntKind.wrap, IntKind.bits, IntKind.signed]
  simp
  split <;> split <;> omega
theorem wrap_i16u (v : Nat) : IntKind.u32.wrap (IntKind.i32.wrap (IntKind.i16.wrap (v : Int))) = ((if v % 65536 < 32768 then v % 65536 else v % 65536 + 4294901760 : Nat) : Int) := by
  rw [quo_s32, u32_cast]
  simp only [IntKind.wrap, IntKind.bits, IntKind.signed]
  simp
  split <;> split <;> omega
theorem extend_spec (v n : Nat) : Spec Try.prog 18 #[.int .u32 v, .int .i64 n] (fun _ => True) []
    (fun ρ ρ' r L => ρ' = ρ ∧ r = .int .u32 ((extP v n : Nat) : Int) ∧ L = []) := by
  refine Spec.of 19 Try.func18 rfl Try.ntmps18 [(0, _), (1, _)] rfl rfl ?_
  intro cx ρ hr h0
  refine Cd.seq fun K90 hK90 => ?_
  refine Cd.plain [(0, false)] rfl rfl ?_
  refine Jp.y 4 rfl (want_all rfl) rfl rfl Kp.true (Y.assign rfl rfl) ?_
  refine Jp.done hK90 ?_
  refine Cd.seq fun K91 hK91 => ?_
  refine Cd.seq fun K92 hK92 => ?_
  refine Cd.plain [(0, false)] rfl rfl ?_
  refine Jp.y 5 rfl (want_all rfl) rfl rfl Kp.true (Y.move rfl rfl) ?_
  refine Jp.done hK92 ?_
  refine Cd.block ?_
  refine Cd.seq fun K93 hK93 => ?_
  refine Cd.plain [(0, false), (1, false)] rfl rfl ?_
  refine Jp.y 7 rfl (want_all rfl) rfl rfl Kp.true (Y.eql rfl rfl rfl) ?_
  refine Jp.y 6 rfl (want_all rfl) rfl rfl Kp.true (Y.assign rfl rfl) ?_
  refine Jp.done hK93 ?_
  refine Cd.cond rfl (fun g6 => ?_) (fun g6 => ?_)
  · skip
    try simp only [decide_eq_false_iff_not, decide_eq_true_eq, Int.not_lt, Int.not_le, Bool.not_eq_false, Bool.not_eq_true, Bool.not_true, Bool.not_false, Bool.not_eq_true', Bool.not_eq_false', beq_eq_false_iff_ne, ne_eq, beq_iff_eq, bne_iff_ne, bne_eq_false_iff_eq, Classical.not_not] at g6
    refine Cd.seq fun K94 hK94 => ?_
    refine Cd.plain [(0, false), (1, false), (2, false), (3, false), (4, false)] rfl rfl ?_
    refine Jp.y 8 rfl (want_all rfl) rfl rfl Kp.true (Y.move rfl rfl) ?_
    refine Jp.y 9 rfl (want_all rfl) rfl rfl Kp.true (Y.conv_ rfl rfl Try.underlying25 Try.underlying108 (by first | exact wrap_i8 (by omega) (by omega) | rfl)) ?_
    refine Jp.y 10 rfl (want_all rfl) rfl rfl Kp.true (Y.conv_ rfl rfl Try.underlying108 Try.underlying21 (by first | exact wrap_i32 (by omega) (by omega) | rfl)) ?_
    refine Jp.y 11 rfl (want_all rfl) rfl rfl Kp.true (Y.conv_ rfl rfl Try.underlying21 Try.underlying25 (by first | exact wrap_u32 (by omega) (by omega) | rfl)) ?_
    refine Jp.y 4 rfl (want_all rfl) rfl rfl Kp.true (Y.assign rfl rfl) ?_
    refine Jp.done hK94 ?_
    refine Cd.ret [] rfl (res1 rfl rfl) trivial ⟨rfl, by
      first
      | (obtain rfl : n = 8 := by omega
         exact congrArg (Value.int .u32) (wrap_i8u v))
      | (obtain rfl : n = 16 := by omega
         exact congrArg (Value.int .u32) (wrap_i16u v))
      | (rw [extP, if_neg (by omega), if_neg (by omega)]), rfl⟩
  · skip
    try simp only [decide_eq_false_iff_not, decide_eq_true_eq, Int.not_lt, Int.not_le, Bool.not_eq_false, Bool.not_eq_true, Bool.not_true, Bool.not_false, Bool.not_eq_true', Bool.not_eq_false', beq_eq_false_iff_ne, ne_eq, beq_iff_eq, bne_iff_ne, bne_eq_false_iff_eq, Classical.not_not] at g6
    refine Cd.seq fun K95 hK95 => ?_
    refine Cd.plain [(0, false), (1, false)] rfl rfl ?_
    refine Jp.y 13 rfl (want_all rfl) rfl rfl Kp.true (Y.eql rfl rfl rfl) ?_
    refine Jp.y 12 rfl (want_all rfl) rfl rfl Kp.true (Y.assign rfl rfl) ?_
    refine Jp.done hK95 ?_
    refine Cd.cond rfl (fun g12 => ?_) (fun g12 => ?_)
    · skip
      try simp only [decide_eq_false_iff_not, decide_eq_true_eq, Int.not_lt, Int.not_le, Bool.not_eq_false, Bool.not_eq_true, Bool.not_true, Bool.not_false, Bool.not_eq_true', Bool.not_eq_false', beq_eq_false_iff_ne, ne_eq, beq_iff_eq, bne_iff_ne, bne_eq_false_iff_eq, Classical.not_not] at g12
      refine Cd.seq fun K96 hK96 => ?_
      refine Cd.plain [(0, false), (1, false), (2, false), (3, false), (4, false)] rfl rfl ?_
      refine Jp.y 14 rfl (want_all rfl) rfl rfl Kp.true (Y.move rfl rfl) ?_
      refine Jp.y 15 rfl (want_all rfl) rfl rfl Kp.true (Y.conv_ rfl rfl Try.underlying25 Try.underlying109 (by first | exact wrap_i16 (by omega) (by omega) | rfl)) ?_
      refine Jp.y 16 rfl (want_all rfl) rfl rfl Kp.true (Y.conv_ rfl rfl Try.underlying109 Try.underlying21 (by first | exact wrap_i32 (by omega) (by omega) | rfl)) ?_
      refine Jp.y 17 rfl (want_all rfl) rfl rfl Kp.true (Y.conv_ rfl rfl Try.underlying21 Try.underlying25 (by first | exact wrap_u32 (by omega) (by omega) | rfl)) ?_
      refine Jp.y 4 rfl (want_all rfl) rfl rfl Kp.true (Y.assign rfl rfl) ?_
      refine Jp.done hK96 ?_
      refine Cd.ret [] rfl (res1 rfl rfl) trivial ⟨rfl, by
        first
        | (obtain rfl : n = 8 := by omega
           exact congrArg (Value.int .u32) (wrap_i8u v))
        | (obtain rfl : n = 16 := by omega
           exact congrArg (Value.int .u32) (wrap_i16u v))
        | (rw [extP, if_neg (by omega), if_neg (by omega)]), rfl⟩
    · skip
      try simp only [decide_eq_false_iff_not, decide_eq_true_eq, Int.not_lt, Int.not_le, Bool.not_eq_false, Bool.not_eq_true, Bool.not_true, Bool.not_false, Bool.not_eq_true', Bool.not_eq_false', beq_eq_false_iff_ne, ne_eq, beq_iff_eq, bne_iff_ne, bne_eq_false_iff_eq, Classical.not_not] at g12
      refine Cd.over rfl hK91 ?_
      refine Cd.seq fun K97 hK97 => ?_
      refine Cd.plain [(0, false), (1, false)] rfl rfl ?_
      refine Jp.y 18 rfl (want_all rfl) rfl rfl Kp.true (Y.move rfl rfl) ?_
      refine Jp.y 4 rfl (want_all rfl) rfl rfl Kp.true (Y.assign rfl rfl) ?_
      refine Jp.done hK97 ?_
      refine Cd.ret [] rfl (res1 rfl rfl) trivial ⟨rfl, by
        first
        | (obtain rfl : n = 8 := by omega
           exact congrArg (Value.int .u32) (wrap_i8u v))
        | (obtain rfl : n = 16 := by omega
           exact congrArg (Value.int .u32) (wrap_i16u v))
        | (rw [extP, if_neg (by omega), if_neg (by omega)]), rfl⟩
end Go.Proofs.Ytkjeidoplonkjaa
