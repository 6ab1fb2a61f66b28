import Derived.Test.YtjfgefdcngpplaaZR5A
set_option linter.unusedVariables false
set_option linter.unusedSimpArgs false
set_option maxRecDepth 100000
namespace Go.Proofs.Ytjfgefdcngpplaa
open Go
def suits (op o f t : Nat) : Bool := (formP op).1 == o && ((decide (op ≤ 3) || (formP op).2.1 == f) && (!(decide (25 ≤ op) && decide (op ≤ 45)) || (formP op).2.2 == t))
def kindQ (o f t z : Nat) : Nat :=
  if o = 55 then 1 else if o = 23 then 2 else if o = 111 then 3 else
  if o = 103 then (if f = 0 then 4 else z) else
  if o = 99 then branchP f else if o = 3 then loadP f else if o = 35 then storeP f else
  if o = 19 then immKP f t else if o = 51 then regKP f t else
  if o = 15 then (if f < 2 then 46 + f else z) else z
theorem kindP_Q (w : Nat) : kindP w = kindQ (w % 128) (w / 2 ^ 12 % 2 ^ 3) (w / 2 ^ 25 % 2 ^ 7) (systemP w) := rfl
theorem suits_iff (op o f t : Nat) : suits op o f t = true ↔ (formP op).1 = o ∧ (3 < op → (formP op).2.1 = f) ∧ (25 ≤ op ∧ op ≤ 45 → (formP op).2.2 = t) := by
  simp only [suits, Bool.and_eq_true, Bool.or_eq_true, Bool.not_eq_true', Bool.and_eq_false_iff, beq_iff_eq, decide_eq_true_eq, decide_eq_false_iff_not]
  omega
theorem suits_kind {op o f t : Nat} (z : Nat) (h1 : 1 ≤ op) (h2 : op ≤ 47) (h : suits op o f t = true) : kindQ o f t z = op := by
  rw [suits_iff] at h
  obtain ⟨a, b, c⟩ := h
  rcases (show op = 1 ∨ op = 2 ∨ op = 3 ∨ op = 4 ∨ op = 5 ∨ op = 6 ∨ op = 7 ∨ op = 8 ∨ op = 9 ∨ op = 10 ∨ op = 11 ∨ op = 12 ∨ op = 13 ∨ op = 14 ∨ op = 15 ∨ op = 16 ∨ op = 17 ∨ op = 18 ∨ op = 19 ∨ op = 20 ∨ op = 21 ∨ op = 22 ∨ op = 23 ∨ op = 24 ∨ op = 25 ∨ op = 26 ∨ op = 27 ∨ op = 28 ∨ op = 29 ∨ op = 30 ∨ op = 31 ∨ op = 32 ∨ op = 33 ∨ op = 34 ∨ op = 35 ∨ op = 36 ∨ op = 37 ∨ op = 38 ∨ op = 39 ∨ op = 40 ∨ op = 41 ∨ op = 42 ∨ op = 43 ∨ op = 44 ∨ op = 45 ∨ op = 46 ∨ op = 47 by omega) with rfl | rfl | rfl | rfl | rfl | rfl | rfl | rfl | rfl | rfl | rfl | rfl | rfl | rfl | rfl | rfl | rfl | rfl | rfl | rfl | rfl | rfl | rfl | rfl | rfl | rfl | rfl | rfl | rfl | rfl | rfl | rfl | rfl | rfl | rfl | rfl | rfl | rfl | rfl | rfl | rfl | rfl | rfl | rfl | rfl | rfl | rfl
  · have a : 55 = o := a
    subst a; rfl
  · have a : 23 = o := a
    subst a; rfl
  · have a : 111 = o := a
    subst a; rfl
  · have a : 103 = o := a
    have b : 0 = f := b (by decide)
    subst a b; rfl
  · have a : 99 = o := a
    have b : 0 = f := b (by decide)
    subst a b; rfl
  · have a : 99 = o := a
    have b : 1 = f := b (by decide)
    subst a b; rfl
  · have a : 99 = o := a
    have b : 4 = f := b (by decide)
    subst a b; rfl
  · have a : 99 = o := a
    have b : 5 = f := b (by decide)
    subst a b; rfl
  · have a : 99 = o := a
    have b : 6 = f := b (by decide)
    subst a b; rfl
  · have a : 99 = o := a
    have b : 7 = f := b (by decide)
    subst a b; rfl
  · have a : 3 = o := a
    have b : 0 = f := b (by decide)
    subst a b; rfl
  · have a : 3 = o := a
    have b : 1 = f := b (by decide)
    subst a b; rfl
  · have a : 3 = o := a
    have b : 2 = f := b (by decide)
    subst a b; rfl
  · have a : 3 = o := a
    have b : 4 = f := b (by decide)
    subst a b; rfl
  · have a : 3 = o := a
    have b : 5 = f := b (by decide)
    subst a b; rfl
  · have a : 35 = o := a
    have b : 0 = f := b (by decide)
    subst a b; rfl
  · have a : 35 = o := a
    have b : 1 = f := b (by decide)
    subst a b; rfl
  · have a : 35 = o := a
    have b : 2 = f := b (by decide)
    subst a b; rfl
  · have a : 19 = o := a
    have b : 0 = f := b (by decide)
    subst a b; rfl
  · have a : 19 = o := a
    have b : 2 = f := b (by decide)
    subst a b; rfl
  · have a : 19 = o := a
    have b : 3 = f := b (by decide)
    subst a b; rfl
  · have a : 19 = o := a
    have b : 4 = f := b (by decide)
    subst a b; rfl
  · have a : 19 = o := a
    have b : 6 = f := b (by decide)
    subst a b; rfl
  · have a : 19 = o := a
    have b : 7 = f := b (by decide)
    subst a b; rfl
  · have a : 19 = o := a
    have b : 1 = f := b (by decide)
    have c : 0 = t := c (by decide)
    subst a b c; rfl
  · have a : 19 = o := a
    have b : 5 = f := b (by decide)
    have c : 0 = t := c (by decide)
    subst a b c; rfl
  · have a : 19 = o := a
    have b : 5 = f := b (by decide)
    have c : 32 = t := c (by decide)
    subst a b c; rfl
  · have a : 51 = o := a
    have b : 0 = f := b (by decide)
    have c : 0 = t := c (by decide)
    subst a b c; rfl
  · have a : 51 = o := a
    have b : 0 = f := b (by decide)
    have c : 32 = t := c (by decide)
    subst a b c; rfl
  · have a : 51 = o := a
    have b : 1 = f := b (by decide)
    have c : 0 = t := c (by decide)
    subst a b c; rfl
  · have a : 51 = o := a
    have b : 2 = f := b (by decide)
    have c : 0 = t := c (by decide)
    subst a b c; rfl
  · have a : 51 = o := a
    have b : 3 = f := b (by decide)
    have c : 0 = t := c (by decide)
    subst a b c; rfl
  · have a : 51 = o := a
    have b : 4 = f := b (by decide)
    have c : 0 = t := c (by decide)
    subst a b c; rfl
  · have a : 51 = o := a
    have b : 5 = f := b (by decide)
    have c : 0 = t := c (by decide)
    subst a b c; rfl
  · have a : 51 = o := a
    have b : 5 = f := b (by decide)
    have c : 32 = t := c (by decide)
    subst a b c; rfl
  · have a : 51 = o := a
    have b : 6 = f := b (by decide)
    have c : 0 = t := c (by decide)
    subst a b c; rfl
  · have a : 51 = o := a
    have b : 7 = f := b (by decide)
    have c : 0 = t := c (by decide)
    subst a b c; rfl
  · have a : 51 = o := a
    have b : 0 = f := b (by decide)
    have c : 1 = t := c (by decide)
    subst a b c; rfl
  · have a : 51 = o := a
    have b : 1 = f := b (by decide)
    have c : 1 = t := c (by decide)
    subst a b c; rfl
  · have a : 51 = o := a
    have b : 2 = f := b (by decide)
    have c : 1 = t := c (by decide)
    subst a b c; rfl
  · have a : 51 = o := a
    have b : 3 = f := b (by decide)
    have c : 1 = t := c (by decide)
    subst a b c; rfl
  · have a : 51 = o := a
    have b : 4 = f := b (by decide)
    have c : 1 = t := c (by decide)
    subst a b c; rfl
  · have a : 51 = o := a
    have b : 5 = f := b (by decide)
    have c : 1 = t := c (by decide)
    subst a b c; rfl
  · have a : 51 = o := a
    have b : 6 = f := b (by decide)
    have c : 1 = t := c (by decide)
    subst a b c; rfl
  · have a : 51 = o := a
    have b : 7 = f := b (by decide)
    have c : 1 = t := c (by decide)
    subst a b c; rfl
  · have a : 15 = o := a
    have b : 0 = f := b (by decide)
    subst a b; rfl
  · have a : 15 = o := a
    have b : 1 = f := b (by decide)
    subst a b; rfl
theorem kind_suits {o f t : Nat} (hf : f < 8) (h0 : kindQ o f t 0 ≠ 0) : suits (kindQ o f t 0) o f t = true ∧ kindQ o f t 0 ≤ 47 := by
  unfold kindQ at h0 ⊢
  by_cases h1 : o = 55
  · subst h1; exact ⟨rfl, Nat.le_of_ble_eq_true rfl⟩
  rw [if_neg h1] at h0 ⊢
  by_cases h2 : o = 23
  · subst h2; exact ⟨rfl, Nat.le_of_ble_eq_true rfl⟩
  rw [if_neg h2] at h0 ⊢
  by_cases h3 : o = 111
  · subst h3; exact ⟨rfl, Nat.le_of_ble_eq_true rfl⟩
  rw [if_neg h3] at h0 ⊢
  by_cases h4 : o = 103
  · subst h4
    rw [if_pos rfl] at h0 ⊢
    by_cases hz : f = 0
    · subst hz; exact ⟨rfl, Nat.le_of_ble_eq_true rfl⟩
    · rw [if_neg hz] at h0; exact absurd rfl h0
  rw [if_neg h4] at h0 ⊢
  by_cases h5 : o = 99
  · subst h5
    rw [if_pos rfl] at h0 ⊢
    rcases (show f = 0 ∨ f = 1 ∨ f = 2 ∨ f = 3 ∨ f = 4 ∨ f = 5 ∨ f = 6 ∨ f = 7 by omega) with rfl | rfl | rfl | rfl | rfl | rfl | rfl | rfl <;> first | exact absurd rfl h0 | exact ⟨rfl, Nat.le_of_ble_eq_true rfl⟩
  rw [if_neg h5] at h0 ⊢
  by_cases h6 : o = 3
  · subst h6
    rw [if_pos rfl] at h0 ⊢
    rcases (show f = 0 ∨ f = 1 ∨ f = 2 ∨ f = 3 ∨ f = 4 ∨ f = 5 ∨ f = 6 ∨ f = 7 by omega) with rfl | rfl | rfl | rfl | rfl | rfl | rfl | rfl <;> first | exact absurd rfl h0 | exact ⟨rfl, Nat.le_of_ble_eq_true rfl⟩
  rw [if_neg h6] at h0 ⊢
  by_cases h7 : o = 35
  · subst h7
    rw [if_pos rfl] at h0 ⊢
    rcases (show f = 0 ∨ f = 1 ∨ f = 2 ∨ f = 3 ∨ f = 4 ∨ f = 5 ∨ f = 6 ∨ f = 7 by omega) with rfl | rfl | rfl | rfl | rfl | rfl | rfl | rfl <;> first | exact absurd rfl h0 | exact ⟨rfl, Nat.le_of_ble_eq_true rfl⟩
  rw [if_neg h7] at h0 ⊢
  by_cases h8 : o = 19
  · subst h8
    rw [if_pos rfl] at h0 ⊢
    unfold immKP at h0 ⊢
    by_cases q1 : f = 1 ∧ t = 0
    · obtain ⟨rfl, rfl⟩ := q1; exact ⟨rfl, Nat.le_of_ble_eq_true rfl⟩
    rw [if_neg q1] at h0 ⊢
    by_cases q2 : f = 5 ∧ t = 0
    · obtain ⟨rfl, rfl⟩ := q2; exact ⟨rfl, Nat.le_of_ble_eq_true rfl⟩
    rw [if_neg q2] at h0 ⊢
    by_cases q3 : f = 5 ∧ t = 32
    · obtain ⟨rfl, rfl⟩ := q3; exact ⟨rfl, Nat.le_of_ble_eq_true rfl⟩
    rw [if_neg q3] at h0 ⊢
    rcases (show f = 0 ∨ f = 1 ∨ f = 2 ∨ f = 3 ∨ f = 4 ∨ f = 5 ∨ f = 6 ∨ f = 7 by omega) with rfl | rfl | rfl | rfl | rfl | rfl | rfl | rfl <;> first | exact absurd rfl h0 | exact ⟨rfl, Nat.le_of_ble_eq_true rfl⟩
  rw [if_neg h8] at h0 ⊢
  by_cases h9 : o = 51
  · subst h9
    rw [if_pos rfl] at h0 ⊢
    unfold regKP at h0 ⊢
    by_cases q1 : t = 0
    · subst q1
      rcases (show f = 0 ∨ f = 1 ∨ f = 2 ∨ f = 3 ∨ f = 4 ∨ f = 5 ∨ f = 6 ∨ f = 7 by omega) with rfl | rfl | rfl | rfl | rfl | rfl | rfl | rfl <;> exact ⟨rfl, Nat.le_of_ble_eq_true rfl⟩
    rw [if_neg q1] at h0 ⊢
    by_cases q2 : t = 1
    · subst q2
      rcases (show f = 0 ∨ f = 1 ∨ f = 2 ∨ f = 3 ∨ f = 4 ∨ f = 5 ∨ f = 6 ∨ f = 7 by omega) with rfl | rfl | rfl | rfl | rfl | rfl | rfl | rfl <;> exact ⟨rfl, Nat.le_of_ble_eq_true rfl⟩
    rw [if_neg q2] at h0 ⊢
    by_cases q3 : t = 32 ∧ f = 0
    · obtain ⟨rfl, rfl⟩ := q3; exact ⟨rfl, Nat.le_of_ble_eq_true rfl⟩
    rw [if_neg q3] at h0 ⊢
    by_cases q4 : t = 32 ∧ f = 5
    · obtain ⟨rfl, rfl⟩ := q4; exact ⟨rfl, Nat.le_of_ble_eq_true rfl⟩
    rw [if_neg q4] at h0; exact absurd rfl h0
  rw [if_neg h9] at h0 ⊢
  by_cases h10 : o = 15
  · subst h10
    rw [if_pos rfl] at h0 ⊢
    by_cases q1 : f < 2
    · rw [if_pos q1]
      rcases (show f = 0 ∨ f = 1 by omega) with rfl | rfl <;> exact ⟨rfl, Nat.le_of_ble_eq_true rfl⟩
    · rw [if_neg q1] at h0; exact absurd rfl h0
  rw [if_neg h10] at h0; exact absurd rfl h0
def signedP (v n : Nat) : Int := if v < 2 ^ (n - 1) then (v : Int) else (v : Int) - 2 ^ n
theorem s32_all {a : Nat} (h : a < 4294967296) : s32 a = if a < 2147483648 then (a : Int) else (a : Int) - 4294967296 := by
  simp only [s32, IntKind.wrap, IntKind.bits, IntKind.signed]
  simp
  split <;> split <;> omega
theorem signed_val {v n : Nat} (hn : n = 12 ∨ n = 13 ∨ n = 21) (hv : v < 2 ^ n) : (s32 (v * 2 ^ (32 - n))).fdiv (2 ^ (32 - n)) = signedP v n := by
  rw [Int.fdiv_eq_ediv_of_nonneg _ (Int.le_of_lt (Int.pow_pos (by decide)))]
  rcases hn with rfl | rfl | rfl
  · rw [s32_all (show v * 2 ^ (32 - 12) < 4294967296 by omega)]
    show (if v * 1048576 < 2147483648 then ((v * 1048576 : Nat) : Int) else ((v * 1048576 : Nat) : Int) - 4294967296) / 1048576 = if v < 2048 then (v : Int) else (v : Int) - 4096
    split <;> split <;> omega
  · rw [s32_all (show v * 2 ^ (32 - 13) < 4294967296 by omega)]
    show (if v * 524288 < 2147483648 then ((v * 524288 : Nat) : Int) else ((v * 524288 : Nat) : Int) - 4294967296) / 524288 = if v < 4096 then (v : Int) else (v : Int) - 8192
    split <;> split <;> omega
  · rw [s32_all (show v * 2 ^ (32 - 21) < 4294967296 by omega)]
    show (if v * 2048 < 2147483648 then ((v * 2048 : Nat) : Int) else ((v * 2048 : Nat) : Int) - 4294967296) / 2048 = if v < 1048576 then (v : Int) else (v : Int) - 2097152
    split <;> split <;> omega
theorem i32_wrap_eq {x y : Int} (h : x % 4294967296 = y % 4294967296) (h1 : -2147483648 ≤ y) (h2 : y ≤ 2147483647) : IntKind.i32.wrap x = y := by
  simp only [IntKind.wrap, IntKind.bits, IntKind.signed]
  simp
  split <;> omega
theorem or_i32_low {q : Int} {e y : Nat} (he : e ≤ 31) (hy : y < 2 ^ e) (h1 : -2147483648 ≤ q * 2 ^ e) (h2 : q * 2 ^ e + y ≤ 2147483647) : bitsB .or .i32 (q * 2 ^ e) (y : Int) = q * 2 ^ e + y := by
  have hy32 : y < 2 ^ 32 := Nat.lt_of_lt_of_le hy (Nat.pow_le_pow_right (by decide) (by omega))
  show IntKind.i32.wrap ((BitVec.ofInt 32 (q * 2 ^ e) ||| BitVec.ofInt 32 (y : Int)).toNat : Int) = _
  rw [BitVec.toNat_or, ofInt_nat 32 y hy32]
  have hX : ∃ m : Nat, (BitVec.ofInt 32 (q * 2 ^ e)).toNat = m * 2 ^ e ∧ ((m * 2 ^ e : Nat) : Int) = (q * 2 ^ e) % 4294967296 := by
    rw [BitVec.toNat_ofInt]
    have e1 : (4294967296 : Int) = 2 ^ e * 2 ^ (32 - e) := by rw [← Int.pow_add, show e + (32 - e) = 32 by omega]; rfl
    have e2 : (q * 2 ^ e) % 4294967296 = (q % 2 ^ (32 - e)) * 2 ^ e := by
      rw [e1, Int.mul_comm q, Int.mul_emod_mul_of_pos _ _ (Int.pow_pos (by decide)), Int.mul_comm]
    have e3 : 0 ≤ q % 2 ^ (32 - e) := Int.emod_nonneg _ (Int.ne_of_gt (Int.pow_pos (by decide)))
    refine ⟨(q % 2 ^ (32 - e)).toNat, ?_, ?_⟩
    · show ((q * 2 ^ e) % 4294967296).toNat = _
      rw [e2, Int.toNat_mul e3 (Int.le_of_lt (Int.pow_pos (by decide)))]
      rw [show ((2 : Int) ^ e).toNat = 2 ^ e from Int.toNat_natCast (2 ^ e)]
    · rw [Int.natCast_mul, Int.toNat_of_nonneg e3, e2]; simp
  obtain ⟨m, hm1, hm2⟩ := hX
  rw [hm1, Nat.or_comm, or_shift hy]
  have e4 : ((y + m * 2 ^ e : Nat) : Int) % 4294967296 = (q * 2 ^ e + y) % 4294967296 := by
    rw [Int.natCast_add, hm2]; omega
  exact i32_wrap_eq e4 (by omega) h2
end Go.Proofs.Ytjfgefdcngpplaa
