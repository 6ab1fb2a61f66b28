import Derived.Test.YtjfgefdcngpplaaZR5B
set_option linter.unusedVariables false
set_option linter.unusedSimpArgs false
set_option maxRecDepth 100000
namespace Go.Proofs.Ytjfgefdcngpplaa
open Go
def rshr (x n : Int) : Int := x.fdiv (2 ^ (min n.toNat IntKind.u32.bits))
def rshl (x n : Int) : Int := IntKind.u32.wrap (x * 2 ^ (min n.toNat IntKind.u32.bits))
theorem rshr_nat (a n : Nat) (hn : n ≤ 32) : rshr (a : Int) (n : Int) = ((a / 2 ^ n : Nat) : Int) := shr32 a n hn
theorem rshl_nat {a n : Nat} (hn : n ≤ 32) (h : a * 2 ^ n < 4294967296) : rshl (a : Int) (n : Int) = ((a * 2 ^ n : Nat) : Int) := shl32 hn h
theorem rand_nat {a : Nat} (k : Nat) (ha : a < 4294967296) (hk : k < 32) : bitsB .and .u32 (a : Int) ((2 ^ k - 1 : Nat) : Int) = ((a % 2 ^ k : Nat) : Int) := by
  have : 2 ^ k < 2 ^ 32 := Nat.pow_lt_pow_right (by decide) hk
  rw [bits_and32 ha (by omega), Nat.and_two_pow_sub_one_eq_mod]
theorem or_hi {a b i : Nat} (hb : b < 2 ^ i) : a * 2 ^ i ||| b = a * 2 ^ i + b := by rw [Nat.or_comm, or_shift hb, Nat.add_comm]
theorem bits_or64 {a b : Nat} (ha : a < 4294967296) (hb : b < 4294967296) : bitsB .or .i64 (a : Int) b = ((a ||| b : Nat) : Int) := by
  have h1 : a ||| b < 2 ^ 32 := Nat.or_lt_two_pow ha hb
  show IntKind.i64.wrap ((BitVec.ofInt 64 (a : Int) ||| BitVec.ofInt 64 (b : Int)).toNat : Int) = _
  rw [BitVec.toNat_or, ofInt_nat 64 a (by omega), ofInt_nat 64 b (by omega)]
  exact wrap_i64 (x := ((a ||| b : Nat) : Int)) (by omega) (by omega)
theorem fdiv_s32 {w : Nat} (hw : w < 4294967296) : (s32 w).fdiv (2 ^ 31) = -((w / 2 ^ 31 : Nat) : Int) := by
  rw [Int.fdiv_eq_ediv_of_nonneg _ (Int.le_of_lt (Int.pow_pos (by decide))), s32_all hw]
  split <;> omega
theorem imm_I {w : Nat} (hw : w < 4294967296) : immIP w = signedP (w / 2 ^ 20) 12 := by
  unfold immIP
  rw [Int.fdiv_eq_ediv_of_nonneg _ (Int.le_of_lt (Int.pow_pos (by decide))), s32_all hw]
  show (if w < 2147483648 then (w : Int) else (w : Int) - 4294967296) / 1048576 = if w / 2 ^ 20 < 2048 then ((w / 2 ^ 20 : Nat) : Int) else ((w / 2 ^ 20 : Nat) : Int) - 4096
  split <;> split <;> omega
theorem imm_S {w : Nat} (hw : w < 4294967296) : immSP w = signedP (w / 2 ^ 25 * 2 ^ 5 + w / 2 ^ 7 % 2 ^ 5) 12 := by
  unfold immSP
  obtain ⟨q, hq⟩ : ∃ q, (s32 w).fdiv (2 ^ 25) = q := ⟨_, rfl⟩
  have h1 : q = if w < 2147483648 then ((w / 2 ^ 25 : Nat) : Int) else ((w / 2 ^ 25 : Nat) : Int) - 128 := by
    rw [← hq, Int.fdiv_eq_ediv_of_nonneg _ (Int.le_of_lt (Int.pow_pos (by decide))), s32_all hw]
    split <;> omega
  have hr : -64 ≤ q ∧ q ≤ 63 := by rw [h1]; split <;> omega
  have hy : w / 2 ^ 7 % 2 ^ 5 < 2 ^ 5 := Nat.mod_lt _ (by decide)
  rw [hq, wrap_i32 (by omega) (by omega), or_i32_low (by decide) hy (by omega) (by omega), h1]
  show _ = if w / 2 ^ 25 * 2 ^ 5 + w / 2 ^ 7 % 2 ^ 5 < 2048 then ((w / 2 ^ 25 * 2 ^ 5 + w / 2 ^ 7 % 2 ^ 5 : Nat) : Int) else ((w / 2 ^ 25 * 2 ^ 5 + w / 2 ^ 7 % 2 ^ 5 : Nat) : Int) - 4096
  split <;> split <;> omega
theorem imm_J {w : Nat} (hw : w < 4294967296) : immJP w = signedP (w / 2 ^ 31 * 2 ^ 20 + w / 2 ^ 12 % 2 ^ 8 * 2 ^ 12 + w / 2 ^ 20 % 2 ^ 1 * 2 ^ 11 + w / 2 ^ 21 % 2 ^ 10 * 2 ^ 1) 21 := by
  unfold immJP immTP
  rw [fdiv_s32 hw]
  obtain ⟨h, hh⟩ : ∃ h, w / 2 ^ 31 = h := ⟨_, rfl⟩
  obtain ⟨a, ha⟩ : ∃ a, w / 2 ^ 12 % 2 ^ 8 = a := ⟨_, rfl⟩
  obtain ⟨c, hc⟩ : ∃ c, w / 2 ^ 20 % 2 ^ 1 = c := ⟨_, rfl⟩
  obtain ⟨d, hd⟩ : ∃ d, w / 2 ^ 21 % 2 ^ 10 = d := ⟨_, rfl⟩
  have lh : h < 2 := by omega
  have la : a < 256 := by omega
  have lc : c < 2 := by omega
  have ld : d < 1024 := by omega
  rw [hh, ha, hc, hd]
  have e1 : IntKind.i64.wrap ((a : Int) * 2 ^ 12) = ((a * 2 ^ 12 : Nat) : Int) := wrap_i64 (by omega) (by omega)
  have e2 : IntKind.i64.wrap ((c : Int) * 2 ^ 11) = ((c * 2 ^ 11 : Nat) : Int) := wrap_i64 (by omega) (by omega)
  have e3 : IntKind.i64.wrap ((d : Int) * 2 ^ 1) = ((d * 2 ^ 1 : Nat) : Int) := wrap_i64 (by omega) (by omega)
  have o1 : a * 2 ^ 12 ||| c * 2 ^ 11 = a * 2 ^ 12 + c * 2 ^ 11 := or_hi (by omega)
  have o2 : (a * 2 ^ 12 + c * 2 ^ 11) ||| d * 2 ^ 1 = a * 2 ^ 12 + c * 2 ^ 11 + d * 2 ^ 1 := by
    have := or_hi (a := a * 2 + c) (b := d * 2 ^ 1) (i := 11) (by omega)
    rw [show (a * 2 + c) * 2 ^ 11 = a * 2 ^ 12 + c * 2 ^ 11 by omega] at this
    exact this
  rw [e1, e2, e3, bits_or64 (by omega) (by omega), o1, bits_or64 (by omega) (by omega), o2, wrap_i32 (by omega) (by omega), wrap_i32 (by omega) (by omega), or_i32_low (by decide) (by omega) (by omega) (by omega)]
  show _ = if h * 2 ^ 20 + a * 2 ^ 12 + c * 2 ^ 11 + d * 2 ^ 1 < 1048576 then ((h * 2 ^ 20 + a * 2 ^ 12 + c * 2 ^ 11 + d * 2 ^ 1 : Nat) : Int) else ((h * 2 ^ 20 + a * 2 ^ 12 + c * 2 ^ 11 + d * 2 ^ 1 : Nat) : Int) - 2097152
  split <;> omega
theorem imm_B {w : Nat} (hw : w < 4294967296) : immBP w = signedP (w / 2 ^ 31 * 2 ^ 12 + w / 2 ^ 7 % 2 ^ 1 * 2 ^ 11 + w / 2 ^ 25 % 2 ^ 6 * 2 ^ 5 + w / 2 ^ 8 % 2 ^ 4 * 2 ^ 1) 13 := by
  unfold immBP immTP
  rw [fdiv_s32 hw]
  obtain ⟨h, hh⟩ : ∃ h, w / 2 ^ 31 = h := ⟨_, rfl⟩
  obtain ⟨a, ha⟩ : ∃ a, w / 2 ^ 7 % 2 ^ 1 = a := ⟨_, rfl⟩
  obtain ⟨c, hc⟩ : ∃ c, w / 2 ^ 25 % 2 ^ 6 = c := ⟨_, rfl⟩
  obtain ⟨d, hd⟩ : ∃ d, w / 2 ^ 8 % 2 ^ 4 = d := ⟨_, rfl⟩
  have lh : h < 2 := by omega
  have la : a < 2 := by omega
  have lc : c < 64 := by omega
  have ld : d < 16 := by omega
  rw [hh, ha, hc, hd]
  have e1 : IntKind.i64.wrap ((a : Int) * 2 ^ 11) = ((a * 2 ^ 11 : Nat) : Int) := wrap_i64 (by omega) (by omega)
  have e2 : IntKind.i64.wrap ((c : Int) * 2 ^ 5) = ((c * 2 ^ 5 : Nat) : Int) := wrap_i64 (by omega) (by omega)
  have e3 : IntKind.i64.wrap ((d : Int) * 2 ^ 1) = ((d * 2 ^ 1 : Nat) : Int) := wrap_i64 (by omega) (by omega)
  have o1 : a * 2 ^ 11 ||| c * 2 ^ 5 = a * 2 ^ 11 + c * 2 ^ 5 := or_hi (by omega)
  have o2 : (a * 2 ^ 11 + c * 2 ^ 5) ||| d * 2 ^ 1 = a * 2 ^ 11 + c * 2 ^ 5 + d * 2 ^ 1 := by
    have := or_hi (a := a * 2 ^ 6 + c) (b := d * 2 ^ 1) (i := 5) (by omega)
    rw [show (a * 2 ^ 6 + c) * 2 ^ 5 = a * 2 ^ 11 + c * 2 ^ 5 by omega] at this
    exact this
  rw [e1, e2, e3, bits_or64 (by omega) (by omega), o1, bits_or64 (by omega) (by omega), o2, wrap_i32 (by omega) (by omega), wrap_i32 (by omega) (by omega), or_i32_low (by decide) (by omega) (by omega) (by omega)]
  show _ = if h * 2 ^ 12 + a * 2 ^ 11 + c * 2 ^ 5 + d * 2 ^ 1 < 4096 then ((h * 2 ^ 12 + a * 2 ^ 11 + c * 2 ^ 5 + d * 2 ^ 1 : Nat) : Int) else ((h * 2 ^ 12 + a * 2 ^ 11 + c * 2 ^ 5 + d * 2 ^ 1 : Nat) : Int) - 8192
  split <;> omega
theorem signed_spec (v n : Nat) (hn : n = 12 ∨ n = 13 ∨ n = 21) (hv : v < 2 ^ n) : Spec Try.prog 44 #[.int .u32 v, .int .u64 n] (fun _ => True) [] (fun ρ ρ' r L => ρ' = ρ ∧ r = .int .i32 (signedP v n) ∧ L = []) := by
  refine Spec.of 13 Try.func44 rfl Try.ntmps44 [(0, _), (1, _)] rfl rfl ?_
  intro cx ρ hr h0
  have hb : v * 2 ^ (32 - n) < 4294967296 := by rcases hn with rfl | rfl | rfl <;> omega
  have hm := signed_val hn hv
  refine Cd.seq fun K1 hK1 => ?_
  refine Cd.plain [(0, false)] rfl rfl ?_
  refine Jp.y 4 rfl (want_all rfl) rfl rfl Kp.true (Y.assign rfl rfl) ?_
  refine Jp.done hK1 ?_
  refine Cd.seq fun K2 hK2 => ?_
  refine Cd.plain [(0, false), (1, false), (2, false), (3, false), (4, false), (5, false), (6, false), (7, false), (8, false)] rfl rfl ?_
  refine Jp.y 5 rfl (want_all rfl) rfl rfl Kp.true (Y.move rfl rfl) ?_
  refine Jp.y 6 rfl (want_all rfl) rfl rfl Kp.true (Y.move rfl rfl) ?_
  refine Jp.y 7 rfl (want_all rfl) rfl rfl Kp.true (Y.sub_ rfl rfl rfl (by first | exact wrap_u64 (by omega) (by omega) | rfl)) ?_
  refine Jp.slot 7 rfl (show _ = Value.int .u64 ((32 - n : Nat) : Int) from congrArg (Value.int .u64) (by rcases hn with rfl | rfl | rfl <;> rfl)) ?_
  refine Jp.y 8 rfl (want_all rfl) rfl rfl Kp.true (Y.shl rfl rfl rfl (by first | decide | omega)) ?_
  refine Jp.slot 8 rfl (show _ = Value.int .u32 ((v * 2 ^ (32 - n) : Nat) : Int) from congrArg (Value.int .u32) (rshl_nat (by omega) hb)) ?_
  refine Jp.y 9 rfl (want_all rfl) rfl rfl Kp.true (Y.conv_ rfl rfl Try.underlying23 Try.underlying21 (by first | exact wrap_i32 (by omega) (by omega) | rfl)) ?_
  refine Jp.y 10 rfl (want_all rfl) rfl rfl Kp.true (Y.move rfl rfl) ?_
  refine Jp.y 11 rfl (want_all rfl) rfl rfl Kp.true (Y.sub_ rfl rfl rfl (by first | exact wrap_u64 (by omega) (by omega) | rfl)) ?_
  refine Jp.slot 9 rfl (show _ = Value.int .i32 (s32 (v * 2 ^ (32 - n))) from rfl) ?_
  refine Jp.slot 11 rfl (show _ = Value.int .u64 ((32 - n : Nat) : Int) from congrArg (Value.int .u64) (by rcases hn with rfl | rfl | rfl <;> rfl)) ?_
  refine Jp.y 12 rfl (want_all rfl) rfl rfl Kp.true (Y.shr rfl rfl rfl (by first | decide | omega)) ?_
  refine Jp.y 4 rfl (want_all rfl) rfl rfl Kp.true (Y.assign rfl rfl) ?_
  refine Jp.done hK2 ?_
  refine Cd.ret [] rfl (res1 rfl rfl) trivial ⟨rfl, congrArg (Value.int .i32) (by rw [← hm]; rcases hn with rfl | rfl | rfl <;> rfl), rfl⟩
end Go.Proofs.Ytjfgefdcngpplaa
