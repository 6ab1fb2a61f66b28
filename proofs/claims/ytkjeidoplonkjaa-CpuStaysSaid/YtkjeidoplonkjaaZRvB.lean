import Derived.Test.YtkjeidoplonkjaaZRvA
import Derived.Test.YtkjeidoplonkjaaZEngV
set_option linter.unusedVariables false
set_option linter.unusedSimpArgs false
set_option maxRecDepth 100000
namespace Go.Proofs.Ytkjeidoplonkjaa
open Go
def s32 (w : Nat) : Int := IntKind.i32.wrap (w : Int)
def immIP (w : Nat) : Int := (s32 w).fdiv (2 ^ 20)
theorem immI_spec (w : Nat) (hw : w < 4294967296) : Spec Try.prog 88 #[.int .u32 w] (fun _ => True) [] (fun ρ ρ' v L => ρ' = ρ ∧ v = .int .i32 (immIP w) ∧ L = []) := by
  refine Spec.of 6 Try.func88 rfl Try.ntmps88 [(0, _)] rfl rfl ?_
  intro cx ρ hr h0
  refine Cd.seq fun K1 hK1 => ?_
  refine Cd.plain [(0, false)] rfl rfl ?_
  refine Jp.y 2 rfl (want_all rfl) rfl rfl Kp.true (Y.assign rfl rfl) ?_
  refine Jp.done hK1 ?_
  refine Cd.seq fun K2 hK2 => ?_
  refine Cd.plain [(0, false), (1, false), (2, false), (3, false)] rfl rfl ?_
  refine Jp.y 3 rfl (want_all rfl) rfl rfl Kp.true (Y.move rfl rfl) ?_
  refine Jp.y 4 rfl (want_all rfl) rfl rfl Kp.true (Y.conv_ rfl rfl Try.underlying25 Try.underlying21 (by first | exact wrap_i32 (by omega) (by omega) | rfl)) ?_
  refine Jp.slot 4 rfl (show _ = Value.int .i32 (s32 w) from rfl) ?_
  refine Jp.y 5 rfl (want_all rfl) rfl rfl Kp.true (Y.shr rfl rfl rfl (by first | decide | omega)) ?_
  refine Jp.y 2 rfl (want_all rfl) rfl rfl Kp.true (Y.assign rfl rfl) ?_
  refine Jp.done hK2 ?_
  refine Cd.ret [] rfl (res1 rfl rfl) trivial ⟨rfl, rfl, rfl⟩
def immSP (w : Nat) : Int := bitsB .or .i32 (IntKind.i32.wrap ((s32 w).fdiv (2 ^ 25) * 2 ^ 5)) ((w / 2 ^ 7 % 2 ^ 5 : Nat) : Int)
theorem immS_spec (w : Nat) (hw : w < 4294967296) : Spec Try.prog 87 #[.int .u32 w] (fun _ => True) [] (fun ρ ρ' v L => ρ' = ρ ∧ v = .int .i32 (immSP w) ∧ L = []) := by
  refine Spec.of 11 Try.func87 rfl Try.ntmps87 [(0, _)] rfl rfl ?_
  intro cx ρ hr h0
  have h1 : w / 2 ^ 7 % 2 ^ 5 < 2 ^ 5 := Nat.mod_lt _ (by decide)
  refine Cd.seq fun K3 hK3 => ?_
  refine Cd.plain [(0, false)] rfl rfl ?_
  refine Jp.y 2 rfl (want_all rfl) rfl rfl Kp.true (Y.assign rfl rfl) ?_
  refine Jp.done hK3 ?_
  refine Cd.seq fun K4 hK4 => ?_
  refine Cd.plain [(0, false), (1, false), (2, false), (3, false), (4, false), (5, false), (6, false), (7, false), (8, false)] rfl rfl ?_
  refine Jp.y 3 rfl (want_all rfl) rfl rfl Kp.true (Y.move rfl rfl) ?_
  refine Jp.y 4 rfl (want_all rfl) rfl rfl Kp.true (Y.conv_ rfl rfl Try.underlying25 Try.underlying21 (by first | exact wrap_i32 (by omega) (by omega) | rfl)) ?_
  refine Jp.slot 4 rfl (show _ = Value.int .i32 (s32 w) from rfl) ?_
  refine Jp.y 5 rfl (want_all rfl) rfl rfl Kp.true (Y.shr rfl rfl rfl (by first | decide | omega)) ?_
  refine Jp.y 6 rfl (want_all rfl) rfl rfl Kp.true (Y.shl rfl rfl rfl (by first | decide | omega)) ?_
  refine Jp.y 7 rfl (want_all rfl) rfl rfl Kp.true (Y.move rfl rfl) ?_
  refine Jp.call [] [] (field_spec w 7 5 hw (by omega) (by omega)) 8 rfl (want_all rfl) rfl rfl (Runs.fn rfl Try.call84 rfl) (by decide) (by decide) rfl trivial ?_
  rintro v1 ρ1 L1 ⟨rfl, rfl, rfl⟩
  refine ⟨rfl, fun hle1 => ⟨Kp.true, ?_⟩⟩
  refine Jp.y 9 rfl (want_all rfl) rfl rfl Kp.true (Y.conv_ rfl rfl Try.underlying3 Try.underlying21 (by first | exact wrap_i32 (by omega) (by omega) | rfl)) ?_
  refine Jp.y 10 rfl (want_all rfl) rfl rfl Kp.true (Y.bits rfl rfl rfl rfl) ?_
  refine Jp.y 2 rfl (want_all rfl) rfl rfl Kp.true (Y.assign rfl rfl) ?_
  refine Jp.done hK4 ?_
  refine Cd.ret [] rfl (res1 rfl rfl) trivial ⟨rfl, rfl, rfl⟩
def immTP (w e f1 n1 s1 f2 n2 s2 f3 n3 : Nat) : Int := bitsB .or .i32 (IntKind.i32.wrap ((s32 w).fdiv (2 ^ 31) * 2 ^ e))
  (IntKind.i32.wrap (bitsB .or .i64 (bitsB .or .i64 (IntKind.i64.wrap (((w / 2 ^ f1 % 2 ^ n1 : Nat) : Int) * 2 ^ s1)) (IntKind.i64.wrap (((w / 2 ^ f2 % 2 ^ n2 : Nat) : Int) * 2 ^ s2))) (IntKind.i64.wrap (((w / 2 ^ f3 % 2 ^ n3 : Nat) : Int) * 2 ^ 1))))
def immBP (w : Nat) : Int := immTP w 12 7 1 11 25 6 5 8 4
def immJP (w : Nat) : Int := immTP w 20 12 8 12 20 1 11 21 10
theorem immB_spec (w : Nat) (hw : w < 4294967296) : Spec Try.prog 86 #[.int .u32 w] (fun _ => True) [] (fun ρ ρ' v L => ρ' = ρ ∧ v = .int .i32 (immBP w) ∧ L = []) := by
  refine Spec.of 20 Try.func86 rfl Try.ntmps86 [(0, _)] rfl rfl ?_
  intro cx ρ hr h0
  refine Cd.seq fun K5 hK5 => ?_
  refine Cd.plain [(0, false)] rfl rfl ?_
  refine Jp.y 2 rfl (want_all rfl) rfl rfl Kp.true (Y.assign rfl rfl) ?_
  refine Jp.done hK5 ?_
  refine Cd.seq fun K6 hK6 => ?_
  refine Cd.plain [(0, false), (1, false), (2, false), (3, false), (4, false), (5, false), (6, false), (7, false), (8, false), (9, false), (10, false), (11, false), (12, false), (13, false), (14, false), (15, false), (16, false), (17, false)] rfl rfl ?_
  refine Jp.y 3 rfl (want_all rfl) rfl rfl Kp.true (Y.move rfl rfl) ?_
  refine Jp.y 4 rfl (want_all rfl) rfl rfl Kp.true (Y.conv_ rfl rfl Try.underlying25 Try.underlying21 (by first | exact wrap_i32 (by omega) (by omega) | rfl)) ?_
  refine Jp.slot 4 rfl (show _ = Value.int .i32 (s32 w) from rfl) ?_
  refine Jp.y 5 rfl (want_all rfl) rfl rfl Kp.true (Y.shr rfl rfl rfl (by first | decide | omega)) ?_
  refine Jp.y 6 rfl (want_all rfl) rfl rfl Kp.true (Y.shl rfl rfl rfl (by first | decide | omega)) ?_
  refine Jp.y 7 rfl (want_all rfl) rfl rfl Kp.true (Y.move rfl rfl) ?_
  refine Jp.call [] [] (field_spec w 7 1 hw (by omega) (by omega)) 8 rfl (want_all rfl) rfl rfl (Runs.fn rfl Try.call84 rfl) (by decide) (by decide) rfl trivial ?_
  rintro v1 ρ1 L1 ⟨rfl, rfl, rfl⟩
  refine ⟨rfl, fun hle1 => ⟨Kp.true, ?_⟩⟩
  refine Jp.y 9 rfl (want_all rfl) rfl rfl Kp.true (Y.shl rfl rfl rfl (by first | decide | omega)) ?_
  refine Jp.y 10 rfl (want_all rfl) rfl rfl Kp.true (Y.move rfl rfl) ?_
  refine Jp.call [] [] (field_spec w 25 6 hw (by omega) (by omega)) 11 rfl (want_all rfl) rfl rfl (Runs.fn rfl Try.call84 rfl) (by decide) (by decide) rfl trivial ?_
  rintro v2 ρ2 L2 ⟨rfl, rfl, rfl⟩
  refine ⟨rfl, fun hle2 => ⟨Kp.true, ?_⟩⟩
  refine Jp.y 12 rfl (want_all rfl) rfl rfl Kp.true (Y.shl rfl rfl rfl (by first | decide | omega)) ?_
  refine Jp.y 13 rfl (want_all rfl) rfl rfl Kp.true (Y.bits rfl rfl rfl rfl) ?_
  refine Jp.y 14 rfl (want_all rfl) rfl rfl Kp.true (Y.move rfl rfl) ?_
  refine Jp.call [] [] (field_spec w 8 4 hw (by omega) (by omega)) 15 rfl (want_all rfl) rfl rfl (Runs.fn rfl Try.call84 rfl) (by decide) (by decide) rfl trivial ?_
  rintro v3 ρ3 L3 ⟨rfl, rfl, rfl⟩
  refine ⟨rfl, fun hle3 => ⟨Kp.true, ?_⟩⟩
  refine Jp.y 16 rfl (want_all rfl) rfl rfl Kp.true (Y.shl rfl rfl rfl (by first | decide | omega)) ?_
  refine Jp.y 17 rfl (want_all rfl) rfl rfl Kp.true (Y.bits rfl rfl rfl rfl) ?_
  refine Jp.y 18 rfl (want_all rfl) rfl rfl Kp.true (Y.conv_ rfl rfl Try.underlying3 Try.underlying21 (by first | exact wrap_i32 (by omega) (by omega) | rfl)) ?_
  refine Jp.y 19 rfl (want_all rfl) rfl rfl Kp.true (Y.bits rfl rfl rfl rfl) ?_
  refine Jp.y 2 rfl (want_all rfl) rfl rfl Kp.true (Y.assign rfl rfl) ?_
  refine Jp.done hK6 ?_
  refine Cd.ret [] rfl (res1 rfl rfl) trivial ⟨rfl, rfl, rfl⟩
theorem immJ_spec (w : Nat) (hw : w < 4294967296) : Spec Try.prog 85 #[.int .u32 w] (fun _ => True) [] (fun ρ ρ' v L => ρ' = ρ ∧ v = .int .i32 (immJP w) ∧ L = []) := by
  refine Spec.of 20 Try.func85 rfl Try.ntmps85 [(0, _)] rfl rfl ?_
  intro cx ρ hr h0
  refine Cd.seq fun K7 hK7 => ?_
  refine Cd.plain [(0, false)] rfl rfl ?_
  refine Jp.y 2 rfl (want_all rfl) rfl rfl Kp.true (Y.assign rfl rfl) ?_
  refine Jp.done hK7 ?_
  refine Cd.seq fun K8 hK8 => ?_
  refine Cd.plain [(0, false), (1, false), (2, false), (3, false), (4, false), (5, false), (6, false), (7, false), (8, false), (9, false), (10, false), (11, false), (12, false), (13, false), (14, false), (15, false), (16, false), (17, false)] rfl rfl ?_
  refine Jp.y 3 rfl (want_all rfl) rfl rfl Kp.true (Y.move rfl rfl) ?_
  refine Jp.y 4 rfl (want_all rfl) rfl rfl Kp.true (Y.conv_ rfl rfl Try.underlying25 Try.underlying21 (by first | exact wrap_i32 (by omega) (by omega) | rfl)) ?_
  refine Jp.slot 4 rfl (show _ = Value.int .i32 (s32 w) from rfl) ?_
  refine Jp.y 5 rfl (want_all rfl) rfl rfl Kp.true (Y.shr rfl rfl rfl (by first | decide | omega)) ?_
  refine Jp.y 6 rfl (want_all rfl) rfl rfl Kp.true (Y.shl rfl rfl rfl (by first | decide | omega)) ?_
  refine Jp.y 7 rfl (want_all rfl) rfl rfl Kp.true (Y.move rfl rfl) ?_
  refine Jp.call [] [] (field_spec w 12 8 hw (by omega) (by omega)) 8 rfl (want_all rfl) rfl rfl (Runs.fn rfl Try.call84 rfl) (by decide) (by decide) rfl trivial ?_
  rintro v1 ρ1 L1 ⟨rfl, rfl, rfl⟩
  refine ⟨rfl, fun hle1 => ⟨Kp.true, ?_⟩⟩
  refine Jp.y 9 rfl (want_all rfl) rfl rfl Kp.true (Y.shl rfl rfl rfl (by first | decide | omega)) ?_
  refine Jp.y 10 rfl (want_all rfl) rfl rfl Kp.true (Y.move rfl rfl) ?_
  refine Jp.call [] [] (field_spec w 20 1 hw (by omega) (by omega)) 11 rfl (want_all rfl) rfl rfl (Runs.fn rfl Try.call84 rfl) (by decide) (by decide) rfl trivial ?_
  rintro v2 ρ2 L2 ⟨rfl, rfl, rfl⟩
  refine ⟨rfl, fun hle2 => ⟨Kp.true, ?_⟩⟩
  refine Jp.y 12 rfl (want_all rfl) rfl rfl Kp.true (Y.shl rfl rfl rfl (by first | decide | omega)) ?_
  refine Jp.y 13 rfl (want_all rfl) rfl rfl Kp.true (Y.bits rfl rfl rfl rfl) ?_
  refine Jp.y 14 rfl (want_all rfl) rfl rfl Kp.true (Y.move rfl rfl) ?_
  refine Jp.call [] [] (field_spec w 21 10 hw (by omega) (by omega)) 15 rfl (want_all rfl) rfl rfl (Runs.fn rfl Try.call84 rfl) (by decide) (by decide) rfl trivial ?_
  rintro v3 ρ3 L3 ⟨rfl, rfl, rfl⟩
  refine ⟨rfl, fun hle3 => ⟨Kp.true, ?_⟩⟩
  refine Jp.y 16 rfl (want_all rfl) rfl rfl Kp.true (Y.shl rfl rfl rfl (by first | decide | omega)) ?_
  refine Jp.y 17 rfl (want_all rfl) rfl rfl Kp.true (Y.bits rfl rfl rfl rfl) ?_
  refine Jp.y 18 rfl (want_all rfl) rfl rfl Kp.true (Y.conv_ rfl rfl Try.underlying3 Try.underlying21 (by first | exact wrap_i32 (by omega) (by omega) | rfl)) ?_
  refine Jp.y 19 rfl (want_all rfl) rfl rfl Kp.true (Y.bits rfl rfl rfl rfl) ?_
  refine Jp.y 2 rfl (want_all rfl) rfl rfl Kp.true (Y.assign rfl rfl) ?_
  refine Jp.done hK8 ?_
  refine Cd.ret [] rfl (res1 rfl rfl) trivial ⟨rfl, rfl, rfl⟩
structure InsP where
  op : Nat
  rd : Nat
  r1 : Nat
  r2 : Nat
  imm : Int
def InsP.cells (i : InsP) : List Value := [.int .i64 (i.op : Int), .int .i64 (i.rd : Int), .int .i64 (i.r1 : Int), .int .i64 (i.r2 : Int), .int .i32 i.imm]
def decP (w : Nat) : InsP :=
  if kindP w = 0 ∨ 46 ≤ kindP w then ⟨kindP w, 0, 0, 0, 0⟩ else if kindP w ≤ 2 then ⟨kindP w, w / 2 ^ 7 % 2 ^ 5, 0, 0, s32 (w - w % 4096)⟩ else
  if kindP w = 3 then ⟨kindP w, w / 2 ^ 7 % 2 ^ 5, 0, 0, immJP w⟩ else if 5 ≤ kindP w ∧ kindP w ≤ 10 then ⟨kindP w, 0, w / 2 ^ 15 % 2 ^ 5, w / 2 ^ 20 % 2 ^ 5, immBP w⟩ else
  if 16 ≤ kindP w ∧ kindP w ≤ 18 then ⟨kindP w, 0, w / 2 ^ 15 % 2 ^ 5, w / 2 ^ 20 % 2 ^ 5, immSP w⟩ else
  if 25 ≤ kindP w ∧ kindP w ≤ 27 then ⟨kindP w, w / 2 ^ 7 % 2 ^ 5, w / 2 ^ 15 % 2 ^ 5, 0, ((w / 2 ^ 20 % 2 ^ 5 : Nat) : Int)⟩ else
  if 28 ≤ kindP w then ⟨kindP w, w / 2 ^ 7 % 2 ^ 5, w / 2 ^ 15 % 2 ^ 5, w / 2 ^ 20 % 2 ^ 5, 0⟩ else ⟨kindP w, w / 2 ^ 7 % 2 ^ 5, w / 2 ^ 15 % 2 ^ 5, 0, immIP w⟩
theorem and_hi12 (v : Nat) (hv : v < 4294967296) : v &&& 4294963200 = v - v % 4096 := by
  have h : v - v % 4096 = v / 2 ^ 12 * 2 ^ 12 := by omega
  rw [h]
  apply Nat.eq_of_testBit_eq
  intro i
  rw [Nat.testBit_and, Nat.testBit_mul_two_pow, Nat.testBit_div_two_pow, show (4294963200 : Nat) = 1048575 * 2 ^ 12 from rfl, Nat.testBit_mul_two_pow, show (1048575 : Nat) = 2 ^ 20 - 1 from rfl, Nat.testBit_two_pow_sub_one]
  by_cases h8 : 12 ≤ i
  · rw [show i - 12 + 12 = i by omega]
    by_cases h32 : i < 32
    · simp [h8, show i - 12 < 20 by omega]
    · have : v.testBit i = false := Nat.testBit_lt_two_pow (Nat.lt_of_lt_of_le hv (by
        have := Nat.pow_le_pow_right (n := 2) (by omega) (show 32 ≤ i by omega)
        omega))
      simp [this]
  · simp [h8]
section
attribute [local irreducible] bitsB IntKind.wrap s32 immIP immSP immBP immJP
theorem decode_spec (w : Nat) (hw : w < 4294967296) : Spec Try.prog 60 #[.int .u32 w] (fun _ => True) [] (fun ρ ρ' v L => ρ' = ρ ∧ v = .agg (decP w).cells.toArray ∧ L = []) := by
  refine Spec.of 102 Try.func60 rfl Try.ntmps60 [(0, _)] rfl rfl ?_
  intro cx ρ hr h0
  have hm : bitsB .and .u32 (w : Int) 4294963200 = ((w - w % 4096 : Nat) : Int) := by
    have := bits_and32 (b := 4294963200) hw (by omega)
    rw [and_hi12 w hw] at this
    exact this
  obtain ⟨k, hk⟩ : ∃ k, kindP w = k := ⟨_, rfl⟩
  obtain ⟨x7, h7⟩ : ∃ x, w / 2 ^ 7 % 2 ^ 5 = x := ⟨_, rfl⟩
  obtain ⟨x15, h15⟩ : ∃ x, w / 2 ^ 15 % 2 ^ 5 = x := ⟨_, rfl⟩
  obtain ⟨x20, h20⟩ : ∃ x, w / 2 ^ 20 % 2 ^ 5 = x := ⟨_, rfl⟩
  have l20 : x20 < 32 := by rw [← h20]; exact Nat.mod_lt _ (by decide)
  have hD : decP w = if k = 0 ∨ 46 ≤ k then ⟨k, 0, 0, 0, 0⟩ else if k ≤ 2 then ⟨k, x7, 0, 0, s32 (w - w % 4096)⟩ else
      if k = 3 then ⟨k, x7, 0, 0, immJP w⟩ else if 5 ≤ k ∧ k ≤ 10 then ⟨k, 0, x15, x20, immBP w⟩ else
      if 16 ≤ k ∧ k ≤ 18 then ⟨k, 0, x15, x20, immSP w⟩ else
      if 25 ≤ k ∧ k ≤ 27 then ⟨k, x7, x15, 0, (x20 : Int)⟩ else
      if 28 ≤ k then ⟨k, x7, x15, x20, 0⟩ else ⟨k, x7, x15, 0, immIP w⟩ := by rw [← hk, ← h7, ← h15, ← h20]; rfl
  obtain ⟨D, hDe⟩ : ∃ D, decP w = D := ⟨_, rfl⟩
  rw [hDe] at hD ⊢
  clear hDe
  refine Cd.seq fun K9 hK9 => ?_
  refine Cd.plain [(0, false)] rfl rfl ?_
  refine Jp.alloc 2 2 rfl (want_all rfl) rfl rfl rfl Try.zeroValue28 fun b2 => ⟨Kp.true, ?_⟩
  refine Jp.done hK9 ?_
  refine Cd.seq fun K10 hK10 => ?_
  refine Cd.plain [(0, false), (1, false), (2, false), (3, false), (4, false)] rfl rfl ?_
  refine Jp.y 8 rfl (want_all rfl) rfl rfl Kp.true (Y.move rfl rfl) ?_
  refine Jp.call [] [] (kindOf_spec w hw) 9 rfl (want_all rfl) rfl rfl (Runs.fn rfl Try.call83 rfl) (by decide) (by decide) rfl trivial ?_
  rintro v1 ρ1 L1 ⟨rfl, rfl, rfl⟩
  refine ⟨rfl, fun hle1 => ⟨Kp.true, ?_⟩⟩
  rw [hk]
  refine Jp.y 10 rfl (want_all rfl) rfl rfl Kp.true (Y.struct [(0, _)] [_, _, _, _, _] rfl rfl places28 Try.zeroValue28 rfl) ?_
  refine Jp.alloc 3 3 rfl (want_all rfl) rfl rfl rfl Try.zeroValue28 fun b3 => ⟨Kp.true, ?_⟩
  first | refine Jp.storeAgg 2 rfl (want_all rfl) rfl rfl Try.sizeOf28 rfl rfl rfl rfl rfl rfl (fun k _ _ => noFr0 k) Kp.true ?_ | refine Jp.storeAgg 3 rfl (want_all rfl) rfl rfl Try.sizeOf28 rfl rfl rfl rfl rfl rfl (fun k _ _ => noFr0 k) Kp.true ?_ | refine Jp.storeAgg 3 rfl (want_all rfl) rfl rfl Try.sizeOf28 rfl rfl rfl rfl rfl rfl (fun k _ _ => noFr0 k) Kp.true ?_
  refine Jp.done hK10 ?_
  refine Cd.seq fun K11 hK11 => ?_
  refine Cd.plain [(0, false), (1, false), (2, false), (3, false), (4, false), (5, false), (6, false), (7, false), (8, false)] rfl rfl ?_
  refine Jp.y 11 rfl (want_all rfl) rfl rfl Kp.true (Y.move rfl rfl) ?_
  refine Jp.call [] [] (field_spec w 7 5 hw (by omega) (by omega)) 12 rfl (want_all rfl) rfl rfl (Runs.fn rfl Try.call84 rfl) (by decide) (by decide) rfl trivial ?_
  rintro v2 ρ2 L2 ⟨rfl, rfl, rfl⟩
  refine ⟨rfl, fun hle2 => ⟨Kp.true, ?_⟩⟩
  refine Jp.y 13 rfl (want_all rfl) rfl rfl Kp.true (Y.move rfl rfl) ?_
  refine Jp.call [] [] (field_spec w 15 5 hw (by omega) (by omega)) 14 rfl (want_all rfl) rfl rfl (Runs.fn rfl Try.call84 rfl) (by decide) (by decide) rfl trivial ?_
  rintro v3 ρ3 L3 ⟨rfl, rfl, rfl⟩
  refine ⟨rfl, fun hle3 => ⟨Kp.true, ?_⟩⟩
  refine Jp.y 15 rfl (want_all rfl) rfl rfl Kp.true (Y.move rfl rfl) ?_
  refine Jp.call [] [] (field_spec w 20 5 hw (by omega) (by omega)) 16 rfl (want_all rfl) rfl rfl (Runs.fn rfl Try.call84 rfl) (by decide) (by decide) rfl trivial ?_
  rintro v4 ρ4 L4 ⟨rfl, rfl, rfl⟩
  refine ⟨rfl, fun hle4 => ⟨Kp.true, ?_⟩⟩
  rw [h7, h15, h20]
  refine Jp.imp (j := 3) rfl (fun h hh => (show Pt b3 (.cells #[Value.int .i64 (k : Int), Value.int .i64 0, Value.int .i64 0, Value.int .i64 0, Value.int .i32 0] 28) h from hh)) ?_
  refine Jp.y 4 rfl (want_all rfl) rfl rfl Kp.true (Y.assign rfl rfl) ?_
  refine Jp.y 5 rfl (want_all rfl) rfl rfl Kp.true (Y.assign rfl rfl) ?_
  refine Jp.y 6 rfl (want_all rfl) rfl rfl Kp.true (Y.assign rfl rfl) ?_
  refine Jp.done hK11 ?_
  refine Cd.seq fun K12 hK12 => ?_
  refine Cd.seq fun K13 hK13 => ?_
  refine Cd.plain [(0, false), (1, false), (2, false)] rfl rfl ?_
  refine Jp.y 17 rfl (want_all rfl) rfl rfl Kp.true (by first | exact Y.fieldAddrP rfl rfl Try.underlying28 rfl Try.sizeOf3 (by decide) (show _ + 0 = _ from rfl) | exact Y.fieldAddr rfl rfl Try.underlying28 rfl Try.sizeOf3 (by decide)) ?_
  refine Jp.y 18 rfl (want_all rfl) rfl rfl Kp.true (by first | exact Y.loadO 2 rfl Try.isAgg3 rfl rfl rfl | exact Y.loadO 3 rfl Try.isAgg3 rfl rfl rfl | exact Y.loadO 3 rfl Try.isAgg3 rfl rfl rfl) ?_
  refine Jp.y 7 rfl (want_all rfl) rfl rfl Kp.true (Y.assign rfl rfl) ?_
  refine Jp.done hK13 ?_
  refine Cd.block ?_
  refine Cd.seq fun K14 hK14 => ?_
  refine Cd.plain [(0, false), (1, false), (2, false), (3, false), (4, false), (5, false), (6, false)] rfl rfl ?_
  refine Jp.y 27 rfl (want_all rfl) rfl rfl Kp.true (Y.move rfl rfl) ?_
  refine Jp.y 28 rfl (want_all rfl) rfl rfl Kp.true (Y.eql rfl rfl rfl) ?_
  refine Jp.y 29 rfl (want_all rfl) rfl rfl Kp.true (Y.move rfl rfl) ?_
  refine Jp.joinG (G := Unit) (fun _ => True) (fun _ => []) [(2, _), (3, _)] ⟨rfl, rfl, trivial⟩ (fun _ => [(3, Pt b3 (.cells D.cells.toArray 28))]) [(2, _)] ⟨rfl, trivial⟩ hK12 (fun g hφ => ?_) (fun hj1 => ?_)
  · skip
    refine Cd.seq fun K15 hK15 => ?_
    refine Cd.plain [(0, false), (1, false)] rfl rfl ?_
    refine Jp.y 101 rfl (want_all rfl) rfl rfl Kp.true (by first | exact Y.loadAggO 2 rfl Try.isAgg28 Try.sizeOf28 rfl rfl rfl | exact Y.loadAggO 3 rfl Try.isAgg28 Try.sizeOf28 rfl rfl rfl | exact Y.loadAggO 3 rfl Try.isAgg28 Try.sizeOf28 rfl rfl rfl) ?_
    first | refine Jp.storeAgg 2 rfl (want_all rfl) rfl rfl Try.sizeOf28 rfl rfl rfl rfl rfl rfl (fun k _ _ => noFr0 k) Kp.true ?_ | refine Jp.storeAgg 3 rfl (want_all rfl) rfl rfl Try.sizeOf28 rfl rfl rfl rfl rfl rfl (fun k _ _ => noFr0 k) Kp.true ?_ | refine Jp.storeAgg 3 rfl (want_all rfl) rfl rfl Try.sizeOf28 rfl rfl rfl rfl rfl rfl (fun k _ _ => noFr0 k) Kp.true ?_
    refine Jp.done hK15 ?_
    refine Cd.ret [] rfl (by first | exact resC1 2 rfl rfl Try.isAgg28 Try.sizeOf28 rfl rfl | exact resC1 3 rfl rfl Try.isAgg28 Try.sizeOf28 rfl rfl | exact resC1 3 rfl rfl Try.isAgg28 Try.sizeOf28 rfl rfl) trivial ⟨rfl, rfl, rfl⟩
  · skip
    refine Jp.split 29 rfl (fun g29 => ?_) (fun g29 => ?_)
    · skip
      try simp only [decide_eq_false_iff_not, decide_eq_true_eq, Int.not_lt, Int.not_le, Bool.not_eq_false, Bool.not_eq_true, Bool.not_true, Bool.not_false, Bool.not_eq_true', Bool.not_eq_false', beq_eq_false_iff_ne, ne_eq, beq_iff_eq, bne_iff_ne, bne_eq_false_iff_eq, Classical.not_not] at g29
      refine Jp.skip 30 rfl (want_as rfl rfl rfl rfl) rfl rfl Kp.true ?_
      refine Jp.skip 31 rfl (want_as rfl rfl rfl rfl) rfl rfl Kp.true ?_
      refine Jp.y 32 rfl (want_all rfl) rfl rfl Kp.true (Y.pickT rfl rfl rfl) ?_
      refine Jp.y 26 rfl (want_all rfl) rfl rfl Kp.true (Y.assign rfl rfl) ?_
      refine Jp.done hK14 ?_
      refine Cd.condT rfl ?_
      refine Cd.over rfl hK12 ?_
      refine Cd.imp (i := 3) rfl (fun h hh => (show Pt b3 (.cells D.cells.toArray 28) h from by first | (exfalso; omega) | ((try rw [hm] at hh); rw [hD]; (repeat first | rw [if_pos (by omega)] | rw [if_neg (by omega)]); (try unfold s32); exact hh))) ?_
      exact Cd.meet (hj1 () trivial) ⟨rfl, rfl, trivial⟩ ⟨rfl, rfl, trivial⟩
    · skip
      try simp only [decide_eq_false_iff_not, decide_eq_true_eq, Int.not_lt, Int.not_le, Bool.not_eq_false, Bool.not_eq_true, Bool.not_true, Bool.not_false, Bool.not_eq_true', Bool.not_eq_false', beq_eq_false_iff_ne, ne_eq, beq_iff_eq, bne_iff_ne, bne_eq_false_iff_eq, Classical.not_not] at g29
      refine Jp.y 30 rfl (want_as rfl rfl rfl rfl) rfl rfl Kp.true (Y.move rfl rfl) ?_
      refine Jp.y 31 rfl (want_as rfl rfl rfl rfl) rfl rfl Kp.true (Y.geq rfl rfl rfl) ?_
      refine Jp.y 32 rfl (want_all rfl) rfl rfl Kp.true (Y.pickF rfl rfl rfl) ?_
      refine Jp.y 26 rfl (want_all rfl) rfl rfl Kp.true (Y.assign rfl rfl) ?_
      refine Jp.done hK14 ?_
      refine Cd.cond rfl (fun g26 => ?_) (fun g26 => ?_)
      · skip
        try simp only [decide_eq_false_iff_not, decide_eq_true_eq, Int.not_lt, Int.not_le, Bool.not_eq_false, Bool.not_eq_true, Bool.not_true, Bool.not_false, Bool.not_eq_true', Bool.not_eq_false', beq_eq_false_iff_ne, ne_eq, beq_iff_eq, bne_iff_ne, bne_eq_false_iff_eq, Classical.not_not] at g26
        refine Cd.over rfl hK12 ?_
        refine Cd.imp (i := 3) rfl (fun h hh => (show Pt b3 (.cells D.cells.toArray 28) h from by first | (exfalso; omega) | ((try rw [hm] at hh); rw [hD]; (repeat first | rw [if_pos (by omega)] | rw [if_neg (by omega)]); (try unfold s32); exact hh))) ?_
        exact Cd.meet (hj1 () trivial) ⟨rfl, rfl, trivial⟩ ⟨rfl, rfl, trivial⟩
      · skip
        try simp only [decide_eq_false_iff_not, decide_eq_true_eq, Int.not_lt, Int.not_le, Bool.not_eq_false, Bool.not_eq_true, Bool.not_true, Bool.not_false, Bool.not_eq_true', Bool.not_eq_false', beq_eq_false_iff_ne, ne_eq, beq_iff_eq, bne_iff_ne, bne_eq_false_iff_eq, Classical.not_not] at g26
        refine Cd.seq fun K16 hK16 => ?_
        refine Cd.plain [(0, false), (1, false), (2, false)] rfl rfl ?_
        refine Jp.y 34 rfl (want_all rfl) rfl rfl Kp.true (Y.move rfl rfl) ?_
        refine Jp.y 35 rfl (want_all rfl) rfl rfl Kp.true (Y.leq rfl rfl rfl) ?_
        refine Jp.y 33 rfl (want_all rfl) rfl rfl Kp.true (Y.assign rfl rfl) ?_
        refine Jp.done hK16 ?_
        refine Cd.cond rfl (fun g33 => ?_) (fun g33 => ?_)
        · skip
          try simp only [decide_eq_false_iff_not, decide_eq_true_eq, Int.not_lt, Int.not_le, Bool.not_eq_false, Bool.not_eq_true, Bool.not_true, Bool.not_false, Bool.not_eq_true', Bool.not_eq_false', beq_eq_false_iff_ne, ne_eq, beq_iff_eq, bne_iff_ne, bne_eq_false_iff_eq, Classical.not_not] at g33
          refine Cd.plain [(0, false), (1, false), (2, false), (3, false), (4, false), (5, false), (6, false), (7, false)] rfl rfl ?_
          refine Jp.y 36 rfl (want_all rfl) rfl rfl Kp.true (Y.move rfl rfl) ?_
          refine Jp.y 37 rfl (want_all rfl) rfl rfl Kp.true (Y.move rfl rfl) ?_
          refine Jp.y 38 rfl (want_all rfl) rfl rfl Kp.true (Y.bits rfl rfl rfl rfl) ?_
          refine Jp.y 39 rfl (want_all rfl) rfl rfl Kp.true (Y.conv_ rfl rfl Try.underlying25 Try.underlying21 (by first | exact wrap_i32 (by omega) (by omega) | rfl)) ?_
          refine Jp.y 40 rfl (want_all rfl) rfl rfl Kp.true (by first | exact Y.fieldAddrP rfl rfl Try.underlying28 rfl Try.sizeOf3 (by decide) (show _ + 1 = _ from rfl) | exact Y.fieldAddr rfl rfl Try.underlying28 rfl Try.sizeOf3 (by decide)) ?_
          refine Jp.store 3 rfl (want_all rfl) rfl rfl Try.sizeOf3 rfl rfl rfl rfl rfl rfl Kp.true ?_
          refine Jp.y 41 rfl (want_all rfl) rfl rfl Kp.true (by first | exact Y.fieldAddrP rfl rfl Try.underlying28 rfl Try.sizeOf21 (by decide) (show _ + 4 = _ from rfl) | exact Y.fieldAddr rfl rfl Try.underlying28 rfl Try.sizeOf21 (by decide)) ?_
          refine Jp.store 3 rfl (want_all rfl) rfl rfl Try.sizeOf21 rfl rfl rfl rfl rfl rfl Kp.true ?_
          refine Jp.over rfl hK12 ?_
          refine Cd.imp (i := 3) rfl (fun h hh => (show Pt b3 (.cells D.cells.toArray 28) h from by first | (exfalso; omega) | ((try rw [hm] at hh); rw [hD]; (repeat first | rw [if_pos (by omega)] | rw [if_neg (by omega)]); (try unfold s32); exact hh))) ?_
          exact Cd.meet (hj1 () trivial) ⟨rfl, rfl, trivial⟩ ⟨rfl, rfl, trivial⟩
        · skip
          try simp only [decide_eq_false_iff_not, decide_eq_true_eq, Int.not_lt, Int.not_le, Bool.not_eq_false, Bool.not_eq_true, Bool.not_true, Bool.not_false, Bool.not_eq_true', Bool.not_eq_false', beq_eq_false_iff_ne, ne_eq, beq_iff_eq, bne_iff_ne, bne_eq_false_iff_eq, Classical.not_not] at g33
          refine Cd.seq fun K17 hK17 => ?_
          refine Cd.plain [(0, false), (1, false), (2, false)] rfl rfl ?_
          refine Jp.y 43 rfl (want_all rfl) rfl rfl Kp.true (Y.move rfl rfl) ?_
          refine Jp.y 44 rfl (want_all rfl) rfl rfl Kp.true (Y.eql rfl rfl rfl) ?_
          refine Jp.y 42 rfl (want_all rfl) rfl rfl Kp.true (Y.assign rfl rfl) ?_
          refine Jp.done hK17 ?_
          refine Cd.cond rfl (fun g42 => ?_) (fun g42 => ?_)
          · skip
            try simp only [decide_eq_false_iff_not, decide_eq_true_eq, Int.not_lt, Int.not_le, Bool.not_eq_false, Bool.not_eq_true, Bool.not_true, Bool.not_false, Bool.not_eq_true', Bool.not_eq_false', beq_eq_false_iff_ne, ne_eq, beq_iff_eq, bne_iff_ne, bne_eq_false_iff_eq, Classical.not_not] at g42
            refine Cd.plain [(0, false), (1, false), (2, false), (3, false), (4, false), (5, false), (6, false)] rfl rfl ?_
            refine Jp.y 45 rfl (want_all rfl) rfl rfl Kp.true (Y.move rfl rfl) ?_
            refine Jp.y 46 rfl (want_all rfl) rfl rfl Kp.true (Y.move rfl rfl) ?_
            refine Jp.call [] [] (immJ_spec w hw) 47 rfl (want_all rfl) rfl rfl (Runs.fn rfl Try.call85 rfl) (by decide) (by decide) rfl trivial ?_
            rintro v101 ρ101 L101 ⟨rfl, rfl, rfl⟩
            refine ⟨rfl, fun hle101 => ⟨Kp.true, ?_⟩⟩
            refine Jp.y 48 rfl (want_all rfl) rfl rfl Kp.true (by first | exact Y.fieldAddrP rfl rfl Try.underlying28 rfl Try.sizeOf3 (by decide) (show _ + 1 = _ from rfl) | exact Y.fieldAddr rfl rfl Try.underlying28 rfl Try.sizeOf3 (by decide)) ?_
            refine Jp.store 3 rfl (want_all rfl) rfl rfl Try.sizeOf3 rfl rfl rfl rfl rfl rfl Kp.true ?_
            refine Jp.y 49 rfl (want_all rfl) rfl rfl Kp.true (by first | exact Y.fieldAddrP rfl rfl Try.underlying28 rfl Try.sizeOf21 (by decide) (show _ + 4 = _ from rfl) | exact Y.fieldAddr rfl rfl Try.underlying28 rfl Try.sizeOf21 (by decide)) ?_
            refine Jp.store 3 rfl (want_all rfl) rfl rfl Try.sizeOf21 rfl rfl rfl rfl rfl rfl Kp.true ?_
            refine Jp.over rfl hK12 ?_
            refine Cd.imp (i := 3) rfl (fun h hh => (show Pt b3 (.cells D.cells.toArray 28) h from by first | (exfalso; omega) | ((try rw [hm] at hh); rw [hD]; (repeat first | rw [if_pos (by omega)] | rw [if_neg (by omega)]); (try unfold s32); exact hh))) ?_
            exact Cd.meet (hj1 () trivial) ⟨rfl, rfl, trivial⟩ ⟨rfl, rfl, trivial⟩
          · skip
            try simp only [decide_eq_false_iff_not, decide_eq_true_eq, Int.not_lt, Int.not_le, Bool.not_eq_false, Bool.not_eq_true, Bool.not_true, Bool.not_false, Bool.not_eq_true', Bool.not_eq_false', beq_eq_false_iff_ne, ne_eq, beq_iff_eq, bne_iff_ne, bne_eq_false_iff_eq, Classical.not_not] at g42
            refine Cd.seq fun K18 hK18 => ?_
            refine Cd.plain [(0, false), (1, false), (2, false), (3, false), (4, false), (5, false), (6, false)] rfl rfl ?_
            refine Jp.y 51 rfl (want_all rfl) rfl rfl Kp.true (Y.move rfl rfl) ?_
            refine Jp.y 52 rfl (want_all rfl) rfl rfl Kp.true (Y.geq rfl rfl rfl) ?_
            refine Jp.y 53 rfl (want_all rfl) rfl rfl Kp.true (Y.move rfl rfl) ?_
            refine Jp.split 53 rfl (fun g53 => ?_) (fun g53 => ?_)
            · skip
              try simp only [decide_eq_false_iff_not, decide_eq_true_eq, Int.not_lt, Int.not_le, Bool.not_eq_false, Bool.not_eq_true, Bool.not_true, Bool.not_false, Bool.not_eq_true', Bool.not_eq_false', beq_eq_false_iff_ne, ne_eq, beq_iff_eq, bne_iff_ne, bne_eq_false_iff_eq, Classical.not_not] at g53
              refine Jp.y 54 rfl (want_as rfl rfl rfl rfl) rfl rfl Kp.true (Y.move rfl rfl) ?_
              refine Jp.y 55 rfl (want_as rfl rfl rfl rfl) rfl rfl Kp.true (Y.leq rfl rfl rfl) ?_
              refine Jp.y 56 rfl (want_all rfl) rfl rfl Kp.true (Y.pickT rfl rfl rfl) ?_
              refine Jp.y 50 rfl (want_all rfl) rfl rfl Kp.true (Y.assign rfl rfl) ?_
              refine Jp.done hK18 ?_
              refine Cd.cond rfl (fun g50 => ?_) (fun g50 => ?_)
              · skip
                try simp only [decide_eq_false_iff_not, decide_eq_true_eq, Int.not_lt, Int.not_le, Bool.not_eq_false, Bool.not_eq_true, Bool.not_true, Bool.not_false, Bool.not_eq_true', Bool.not_eq_false', beq_eq_false_iff_ne, ne_eq, beq_iff_eq, bne_iff_ne, bne_eq_false_iff_eq, Classical.not_not] at g50
                refine Cd.plain [(0, false), (1, false), (2, false), (3, false), (4, false), (5, false), (6, false), (7, false), (8, false), (9, false)] rfl rfl ?_
                refine Jp.y 57 rfl (want_all rfl) rfl rfl Kp.true (Y.move rfl rfl) ?_
                refine Jp.y 58 rfl (want_all rfl) rfl rfl Kp.true (Y.move rfl rfl) ?_
                refine Jp.y 59 rfl (want_all rfl) rfl rfl Kp.true (Y.move rfl rfl) ?_
                refine Jp.call [] [] (immB_spec w hw) 60 rfl (want_all rfl) rfl rfl (Runs.fn rfl Try.call86 rfl) (by decide) (by decide) rfl trivial ?_
                rintro v102 ρ102 L102 ⟨rfl, rfl, rfl⟩
                refine ⟨rfl, fun hle102 => ⟨Kp.true, ?_⟩⟩
                refine Jp.y 61 rfl (want_all rfl) rfl rfl Kp.true (by first | exact Y.fieldAddrP rfl rfl Try.underlying28 rfl Try.sizeOf3 (by decide) (show _ + 2 = _ from rfl) | exact Y.fieldAddr rfl rfl Try.underlying28 rfl Try.sizeOf3 (by decide)) ?_
                refine Jp.store 3 rfl (want_all rfl) rfl rfl Try.sizeOf3 rfl rfl rfl rfl rfl rfl Kp.true ?_
                refine Jp.y 62 rfl (want_all rfl) rfl rfl Kp.true (by first | exact Y.fieldAddrP rfl rfl Try.underlying28 rfl Try.sizeOf3 (by decide) (show _ + 3 = _ from rfl) | exact Y.fieldAddr rfl rfl Try.underlying28 rfl Try.sizeOf3 (by decide)) ?_
                refine Jp.store 3 rfl (want_all rfl) rfl rfl Try.sizeOf3 rfl rfl rfl rfl rfl rfl Kp.true ?_
                refine Jp.y 63 rfl (want_all rfl) rfl rfl Kp.true (by first | exact Y.fieldAddrP rfl rfl Try.underlying28 rfl Try.sizeOf21 (by decide) (show _ + 4 = _ from rfl) | exact Y.fieldAddr rfl rfl Try.underlying28 rfl Try.sizeOf21 (by decide)) ?_
                refine Jp.store 3 rfl (want_all rfl) rfl rfl Try.sizeOf21 rfl rfl rfl rfl rfl rfl Kp.true ?_
                refine Jp.over rfl hK12 ?_
                refine Cd.imp (i := 3) rfl (fun h hh => (show Pt b3 (.cells D.cells.toArray 28) h from by first | (exfalso; omega) | ((try rw [hm] at hh); rw [hD]; (repeat first | rw [if_pos (by omega)] | rw [if_neg (by omega)]); (try unfold s32); exact hh))) ?_
                exact Cd.meet (hj1 () trivial) ⟨rfl, rfl, trivial⟩ ⟨rfl, rfl, trivial⟩
              · skip
                try simp only [decide_eq_false_iff_not, decide_eq_true_eq, Int.not_lt, Int.not_le, Bool.not_eq_false, Bool.not_eq_true, Bool.not_true, Bool.not_false, Bool.not_eq_true', Bool.not_eq_false', beq_eq_false_iff_ne, ne_eq, beq_iff_eq, bne_iff_ne, bne_eq_false_iff_eq, Classical.not_not] at g50
                refine Cd.seq fun K19 hK19 => ?_
                refine Cd.plain [(0, false), (1, false), (2, false), (3, false), (4, false), (5, false), (6, false)] rfl rfl ?_
                refine Jp.y 65 rfl (want_all rfl) rfl rfl Kp.true (Y.move rfl rfl) ?_
                refine Jp.y 66 rfl (want_all rfl) rfl rfl Kp.true (Y.geq rfl rfl rfl) ?_
                refine Jp.y 67 rfl (want_all rfl) rfl rfl Kp.true (Y.move rfl rfl) ?_
                refine Jp.split 67 rfl (fun g67 => ?_) (fun g67 => ?_)
                · skip
                  try simp only [decide_eq_false_iff_not, decide_eq_true_eq, Int.not_lt, Int.not_le, Bool.not_eq_false, Bool.not_eq_true, Bool.not_true, Bool.not_false, Bool.not_eq_true', Bool.not_eq_false', beq_eq_false_iff_ne, ne_eq, beq_iff_eq, bne_iff_ne, bne_eq_false_iff_eq, Classical.not_not] at g67
                  refine Jp.y 68 rfl (want_as rfl rfl rfl rfl) rfl rfl Kp.true (Y.move rfl rfl) ?_
                  refine Jp.y 69 rfl (want_as rfl rfl rfl rfl) rfl rfl Kp.true (Y.leq rfl rfl rfl) ?_
                  refine Jp.y 70 rfl (want_all rfl) rfl rfl Kp.true (Y.pickT rfl rfl rfl) ?_
                  refine Jp.y 64 rfl (want_all rfl) rfl rfl Kp.true (Y.assign rfl rfl) ?_
                  refine Jp.done hK19 ?_
                  refine Cd.cond rfl (fun g64 => ?_) (fun g64 => ?_)
                  · skip
                    try simp only [decide_eq_false_iff_not, decide_eq_true_eq, Int.not_lt, Int.not_le, Bool.not_eq_false, Bool.not_eq_true, Bool.not_true, Bool.not_false, Bool.not_eq_true', Bool.not_eq_false', beq_eq_false_iff_ne, ne_eq, beq_iff_eq, bne_iff_ne, bne_eq_false_iff_eq, Classical.not_not] at g64
                    refine Cd.plain [(0, false), (1, false), (2, false), (3, false), (4, false), (5, false), (6, false), (7, false), (8, false), (9, false)] rfl rfl ?_
                    refine Jp.y 71 rfl (want_all rfl) rfl rfl Kp.true (Y.move rfl rfl) ?_
                    refine Jp.y 72 rfl (want_all rfl) rfl rfl Kp.true (Y.move rfl rfl) ?_
                    refine Jp.y 73 rfl (want_all rfl) rfl rfl Kp.true (Y.move rfl rfl) ?_
                    refine Jp.call [] [] (immS_spec w hw) 74 rfl (want_all rfl) rfl rfl (Runs.fn rfl Try.call87 rfl) (by decide) (by decide) rfl trivial ?_
                    rintro v103 ρ103 L103 ⟨rfl, rfl, rfl⟩
                    refine ⟨rfl, fun hle103 => ⟨Kp.true, ?_⟩⟩
                    refine Jp.y 75 rfl (want_all rfl) rfl rfl Kp.true (by first | exact Y.fieldAddrP rfl rfl Try.underlying28 rfl Try.sizeOf3 (by decide) (show _ + 2 = _ from rfl) | exact Y.fieldAddr rfl rfl Try.underlying28 rfl Try.sizeOf3 (by decide)) ?_
                    refine Jp.store 3 rfl (want_all rfl) rfl rfl Try.sizeOf3 rfl rfl rfl rfl rfl rfl Kp.true ?_
                    refine Jp.y 76 rfl (want_all rfl) rfl rfl Kp.true (by first | exact Y.fieldAddrP rfl rfl Try.underlying28 rfl Try.sizeOf3 (by decide) (show _ + 3 = _ from rfl) | exact Y.fieldAddr rfl rfl Try.underlying28 rfl Try.sizeOf3 (by decide)) ?_
                    refine Jp.store 3 rfl (want_all rfl) rfl rfl Try.sizeOf3 rfl rfl rfl rfl rfl rfl Kp.true ?_
                    refine Jp.y 77 rfl (want_all rfl) rfl rfl Kp.true (by first | exact Y.fieldAddrP rfl rfl Try.underlying28 rfl Try.sizeOf21 (by decide) (show _ + 4 = _ from rfl) | exact Y.fieldAddr rfl rfl Try.underlying28 rfl Try.sizeOf21 (by decide)) ?_
                    refine Jp.store 3 rfl (want_all rfl) rfl rfl Try.sizeOf21 rfl rfl rfl rfl rfl rfl Kp.true ?_
                    refine Jp.over rfl hK12 ?_
                    refine Cd.imp (i := 3) rfl (fun h hh => (show Pt b3 (.cells D.cells.toArray 28) h from by first | (exfalso; omega) | ((try rw [hm] at hh); rw [hD]; (repeat first | rw [if_pos (by omega)] | rw [if_neg (by omega)]); (try unfold s32); exact hh))) ?_
                    exact Cd.meet (hj1 () trivial) ⟨rfl, rfl, trivial⟩ ⟨rfl, rfl, trivial⟩
                  · skip
                    try simp only [decide_eq_false_iff_not, decide_eq_true_eq, Int.not_lt, Int.not_le, Bool.not_eq_false, Bool.not_eq_true, Bool.not_true, Bool.not_false, Bool.not_eq_true', Bool.not_eq_false', beq_eq_false_iff_ne, ne_eq, beq_iff_eq, bne_iff_ne, bne_eq_false_iff_eq, Classical.not_not] at g64
                    refine Cd.seq fun K20 hK20 => ?_
                    refine Cd.plain [(0, false), (1, false), (2, false), (3, false), (4, false), (5, false), (6, false)] rfl rfl ?_
                    refine Jp.y 79 rfl (want_all rfl) rfl rfl Kp.true (Y.move rfl rfl) ?_
                    refine Jp.y 80 rfl (want_all rfl) rfl rfl Kp.true (Y.geq rfl rfl rfl) ?_
                    refine Jp.y 81 rfl (want_all rfl) rfl rfl Kp.true (Y.move rfl rfl) ?_
                    refine Jp.split 81 rfl (fun g81 => ?_) (fun g81 => ?_)
                    · skip
                      try simp only [decide_eq_false_iff_not, decide_eq_true_eq, Int.not_lt, Int.not_le, Bool.not_eq_false, Bool.not_eq_true, Bool.not_true, Bool.not_false, Bool.not_eq_true', Bool.not_eq_false', beq_eq_false_iff_ne, ne_eq, beq_iff_eq, bne_iff_ne, bne_eq_false_iff_eq, Classical.not_not] at g81
                      refine Jp.y 82 rfl (want_as rfl rfl rfl rfl) rfl rfl Kp.true (Y.move rfl rfl) ?_
                      refine Jp.y 83 rfl (want_as rfl rfl rfl rfl) rfl rfl Kp.true (Y.leq rfl rfl rfl) ?_
                      refine Jp.y 84 rfl (want_all rfl) rfl rfl Kp.true (Y.pickT rfl rfl rfl) ?_
                      refine Jp.y 78 rfl (want_all rfl) rfl rfl Kp.true (Y.assign rfl rfl) ?_
                      refine Jp.done hK20 ?_
                      refine Cd.cond rfl (fun g78 => ?_) (fun g78 => ?_)
                      · skip
                        try simp only [decide_eq_false_iff_not, decide_eq_true_eq, Int.not_lt, Int.not_le, Bool.not_eq_false, Bool.not_eq_true, Bool.not_true, Bool.not_false, Bool.not_eq_true', Bool.not_eq_false', beq_eq_false_iff_ne, ne_eq, beq_iff_eq, bne_iff_ne, bne_eq_false_iff_eq, Classical.not_not] at g78
                        refine Cd.plain [(0, false), (1, false), (2, false), (3, false), (4, false), (5, false), (6, false), (7, false), (8, false), (9, false)] rfl rfl ?_
                        refine Jp.y 85 rfl (want_all rfl) rfl rfl Kp.true (Y.move rfl rfl) ?_
                        refine Jp.y 86 rfl (want_all rfl) rfl rfl Kp.true (Y.move rfl rfl) ?_
                        refine Jp.y 87 rfl (want_all rfl) rfl rfl Kp.true (Y.move rfl rfl) ?_
                        refine Jp.y 88 rfl (want_all rfl) rfl rfl Kp.true (Y.conv_ rfl rfl Try.underlying3 Try.underlying21 (by first | exact wrap_i32 (by omega) (by omega) | rfl)) ?_
                        refine Jp.y 89 rfl (want_all rfl) rfl rfl Kp.true (by first | exact Y.fieldAddrP rfl rfl Try.underlying28 rfl Try.sizeOf3 (by decide) (show _ + 1 = _ from rfl) | exact Y.fieldAddr rfl rfl Try.underlying28 rfl Try.sizeOf3 (by decide)) ?_
                        refine Jp.store 3 rfl (want_all rfl) rfl rfl Try.sizeOf3 rfl rfl rfl rfl rfl rfl Kp.true ?_
                        refine Jp.y 90 rfl (want_all rfl) rfl rfl Kp.true (by first | exact Y.fieldAddrP rfl rfl Try.underlying28 rfl Try.sizeOf3 (by decide) (show _ + 2 = _ from rfl) | exact Y.fieldAddr rfl rfl Try.underlying28 rfl Try.sizeOf3 (by decide)) ?_
                        refine Jp.store 3 rfl (want_all rfl) rfl rfl Try.sizeOf3 rfl rfl rfl rfl rfl rfl Kp.true ?_
                        refine Jp.y 91 rfl (want_all rfl) rfl rfl Kp.true (by first | exact Y.fieldAddrP rfl rfl Try.underlying28 rfl Try.sizeOf21 (by decide) (show _ + 4 = _ from rfl) | exact Y.fieldAddr rfl rfl Try.underlying28 rfl Try.sizeOf21 (by decide)) ?_
                        refine Jp.store 3 rfl (want_all rfl) rfl rfl Try.sizeOf21 rfl rfl rfl rfl rfl rfl Kp.true ?_
                        refine Jp.over rfl hK12 ?_
                        refine Cd.imp (i := 3) rfl (fun h hh => (show Pt b3 (.cells D.cells.toArray 28) h from by first | (exfalso; omega) | ((try rw [hm] at hh); rw [hD]; (repeat first | rw [if_pos (by omega)] | rw [if_neg (by omega)]); (try unfold s32); exact hh))) ?_
                        exact Cd.meet (hj1 () trivial) ⟨rfl, rfl, trivial⟩ ⟨rfl, rfl, trivial⟩
                      · skip
                        try simp only [decide_eq_false_iff_not, decide_eq_true_eq, Int.not_lt, Int.not_le, Bool.not_eq_false, Bool.not_eq_true, Bool.not_true, Bool.not_false, Bool.not_eq_true', Bool.not_eq_false', beq_eq_false_iff_ne, ne_eq, beq_iff_eq, bne_iff_ne, bne_eq_false_iff_eq, Classical.not_not] at g78
                        refine Cd.seq fun K21 hK21 => ?_
                        refine Cd.plain [(0, false), (1, false), (2, false)] rfl rfl ?_
                        refine Jp.y 93 rfl (want_all rfl) rfl rfl Kp.true (Y.move rfl rfl) ?_
                        refine Jp.y 94 rfl (want_all rfl) rfl rfl Kp.true (Y.geq rfl rfl rfl) ?_
                        refine Jp.y 92 rfl (want_all rfl) rfl rfl Kp.true (Y.assign rfl rfl) ?_
                        refine Jp.done hK21 ?_
                        refine Cd.cond rfl (fun g92 => ?_) (fun g92 => ?_)
                        · skip
                          try simp only [decide_eq_false_iff_not, decide_eq_true_eq, Int.not_lt, Int.not_le, Bool.not_eq_false, Bool.not_eq_true, Bool.not_true, Bool.not_false, Bool.not_eq_true', Bool.not_eq_false', beq_eq_false_iff_ne, ne_eq, beq_iff_eq, bne_iff_ne, bne_eq_false_iff_eq, Classical.not_not] at g92
                          refine Cd.plain [(0, false), (1, false), (2, false), (3, false), (4, false), (5, false), (6, false), (7, false), (8, false)] rfl rfl ?_
                          refine Jp.y 95 rfl (want_all rfl) rfl rfl Kp.true (Y.move rfl rfl) ?_
                          refine Jp.y 96 rfl (want_all rfl) rfl rfl Kp.true (Y.move rfl rfl) ?_
                          refine Jp.y 97 rfl (want_all rfl) rfl rfl Kp.true (Y.move rfl rfl) ?_
                          refine Jp.y 98 rfl (want_all rfl) rfl rfl Kp.true (by first | exact Y.fieldAddrP rfl rfl Try.underlying28 rfl Try.sizeOf3 (by decide) (show _ + 1 = _ from rfl) | exact Y.fieldAddr rfl rfl Try.underlying28 rfl Try.sizeOf3 (by decide)) ?_
                          refine Jp.store 3 rfl (want_all rfl) rfl rfl Try.sizeOf3 rfl rfl rfl rfl rfl rfl Kp.true ?_
                          refine Jp.y 99 rfl (want_all rfl) rfl rfl Kp.true (by first | exact Y.fieldAddrP rfl rfl Try.underlying28 rfl Try.sizeOf3 (by decide) (show _ + 2 = _ from rfl) | exact Y.fieldAddr rfl rfl Try.underlying28 rfl Try.sizeOf3 (by decide)) ?_
                          refine Jp.store 3 rfl (want_all rfl) rfl rfl Try.sizeOf3 rfl rfl rfl rfl rfl rfl Kp.true ?_
                          refine Jp.y 100 rfl (want_all rfl) rfl rfl Kp.true (by first | exact Y.fieldAddrP rfl rfl Try.underlying28 rfl Try.sizeOf3 (by decide) (show _ + 3 = _ from rfl) | exact Y.fieldAddr rfl rfl Try.underlying28 rfl Try.sizeOf3 (by decide)) ?_
                          refine Jp.store 3 rfl (want_all rfl) rfl rfl Try.sizeOf3 rfl rfl rfl rfl rfl rfl Kp.true ?_
                          refine Jp.over rfl hK12 ?_
                          refine Cd.imp (i := 3) rfl (fun h hh => (show Pt b3 (.cells D.cells.toArray 28) h from by first | (exfalso; omega) | ((try rw [hm] at hh); rw [hD]; (repeat first | rw [if_pos (by omega)] | rw [if_neg (by omega)]); (try unfold s32); exact hh))) ?_
                          exact Cd.meet (hj1 () trivial) ⟨rfl, rfl, trivial⟩ ⟨rfl, rfl, trivial⟩
                        · skip
                          try simp only [decide_eq_false_iff_not, decide_eq_true_eq, Int.not_lt, Int.not_le, Bool.not_eq_false, Bool.not_eq_true, Bool.not_true, Bool.not_false, Bool.not_eq_true', Bool.not_eq_false', beq_eq_false_iff_ne, ne_eq, beq_iff_eq, bne_iff_ne, bne_eq_false_iff_eq, Classical.not_not] at g92
                          refine Cd.plain [(0, false), (1, false), (2, false), (3, false), (4, false), (5, false), (6, false), (7, false), (8, false), (9, false)] rfl rfl ?_
                          refine Jp.y 19 rfl (want_all rfl) rfl rfl Kp.true (Y.move rfl rfl) ?_
                          refine Jp.y 20 rfl (want_all rfl) rfl rfl Kp.true (Y.move rfl rfl) ?_
                          refine Jp.y 21 rfl (want_all rfl) rfl rfl Kp.true (Y.move rfl rfl) ?_
                          refine Jp.call [] [] (immI_spec w hw) 22 rfl (want_all rfl) rfl rfl (Runs.fn rfl Try.call88 rfl) (by decide) (by decide) rfl trivial ?_
                          rintro v104 ρ104 L104 ⟨rfl, rfl, rfl⟩
                          refine ⟨rfl, fun hle104 => ⟨Kp.true, ?_⟩⟩
                          refine Jp.y 23 rfl (want_all rfl) rfl rfl Kp.true (by first | exact Y.fieldAddrP rfl rfl Try.underlying28 rfl Try.sizeOf3 (by decide) (show _ + 1 = _ from rfl) | exact Y.fieldAddr rfl rfl Try.underlying28 rfl Try.sizeOf3 (by decide)) ?_
                          refine Jp.store 3 rfl (want_all rfl) rfl rfl Try.sizeOf3 rfl rfl rfl rfl rfl rfl Kp.true ?_
                          refine Jp.y 24 rfl (want_all rfl) rfl rfl Kp.true (by first | exact Y.fieldAddrP rfl rfl Try.underlying28 rfl Try.sizeOf3 (by decide) (show _ + 2 = _ from rfl) | exact Y.fieldAddr rfl rfl Try.underlying28 rfl Try.sizeOf3 (by decide)) ?_
                          refine Jp.store 3 rfl (want_all rfl) rfl rfl Try.sizeOf3 rfl rfl rfl rfl rfl rfl Kp.true ?_
                          refine Jp.y 25 rfl (want_all rfl) rfl rfl Kp.true (by first | exact Y.fieldAddrP rfl rfl Try.underlying28 rfl Try.sizeOf21 (by decide) (show _ + 4 = _ from rfl) | exact Y.fieldAddr rfl rfl Try.underlying28 rfl Try.sizeOf21 (by decide)) ?_
                          refine Jp.store 3 rfl (want_all rfl) rfl rfl Try.sizeOf21 rfl rfl rfl rfl rfl rfl Kp.true ?_
                          refine Jp.over rfl hK12 ?_
                          refine Cd.imp (i := 3) rfl (fun h hh => (show Pt b3 (.cells D.cells.toArray 28) h from by first | (exfalso; omega) | ((try rw [hm] at hh); rw [hD]; (repeat first | rw [if_pos (by omega)] | rw [if_neg (by omega)]); (try unfold s32); exact hh))) ?_
                          exact Cd.meet (hj1 () trivial) ⟨rfl, rfl, trivial⟩ ⟨rfl, rfl, trivial⟩
                    · skip
                      try simp only [decide_eq_false_iff_not, decide_eq_true_eq, Int.not_lt, Int.not_le, Bool.not_eq_false, Bool.not_eq_true, Bool.not_true, Bool.not_false, Bool.not_eq_true', Bool.not_eq_false', beq_eq_false_iff_ne, ne_eq, beq_iff_eq, bne_iff_ne, bne_eq_false_iff_eq, Classical.not_not] at g81
                      refine Jp.skip 82 rfl (want_as rfl rfl rfl rfl) rfl rfl Kp.true ?_
                      refine Jp.skip 83 rfl (want_as rfl rfl rfl rfl) rfl rfl Kp.true ?_
                      refine Jp.y 84 rfl (want_all rfl) rfl rfl Kp.true (Y.pickF rfl rfl rfl) ?_
                      refine Jp.y 78 rfl (want_all rfl) rfl rfl Kp.true (Y.assign rfl rfl) ?_
                      refine Jp.done hK20 ?_
                      refine Cd.condF rfl ?_
                      refine Cd.seq fun K22 hK22 => ?_
                      refine Cd.plain [(0, false), (1, false), (2, false)] rfl rfl ?_
                      refine Jp.y 93 rfl (want_all rfl) rfl rfl Kp.true (Y.move rfl rfl) ?_
                      refine Jp.y 94 rfl (want_all rfl) rfl rfl Kp.true (Y.geq rfl rfl rfl) ?_
                      refine Jp.y 92 rfl (want_all rfl) rfl rfl Kp.true (Y.assign rfl rfl) ?_
                      refine Jp.done hK22 ?_
                      refine Cd.cond rfl (fun g92 => ?_) (fun g92 => ?_)
                      · skip
                        try simp only [decide_eq_false_iff_not, decide_eq_true_eq, Int.not_lt, Int.not_le, Bool.not_eq_false, Bool.not_eq_true, Bool.not_true, Bool.not_false, Bool.not_eq_true', Bool.not_eq_false', beq_eq_false_iff_ne, ne_eq, beq_iff_eq, bne_iff_ne, bne_eq_false_iff_eq, Classical.not_not] at g92
                        refine Cd.plain [(0, false), (1, false), (2, false), (3, false), (4, false), (5, false), (6, false), (7, false), (8, false)] rfl rfl ?_
                        refine Jp.y 95 rfl (want_all rfl) rfl rfl Kp.true (Y.move rfl rfl) ?_
                        refine Jp.y 96 rfl (want_all rfl) rfl rfl Kp.true (Y.move rfl rfl) ?_
                        refine Jp.y 97 rfl (want_all rfl) rfl rfl Kp.true (Y.move rfl rfl) ?_
                        refine Jp.y 98 rfl (want_all rfl) rfl rfl Kp.true (by first | exact Y.fieldAddrP rfl rfl Try.underlying28 rfl Try.sizeOf3 (by decide) (show _ + 1 = _ from rfl) | exact Y.fieldAddr rfl rfl Try.underlying28 rfl Try.sizeOf3 (by decide)) ?_
                        refine Jp.store 3 rfl (want_all rfl) rfl rfl Try.sizeOf3 rfl rfl rfl rfl rfl rfl Kp.true ?_
                        refine Jp.y 99 rfl (want_all rfl) rfl rfl Kp.true (by first | exact Y.fieldAddrP rfl rfl Try.underlying28 rfl Try.sizeOf3 (by decide) (show _ + 2 = _ from rfl) | exact Y.fieldAddr rfl rfl Try.underlying28 rfl Try.sizeOf3 (by decide)) ?_
                        refine Jp.store 3 rfl (want_all rfl) rfl rfl Try.sizeOf3 rfl rfl rfl rfl rfl rfl Kp.true ?_
                        refine Jp.y 100 rfl (want_all rfl) rfl rfl Kp.true (by first | exact Y.fieldAddrP rfl rfl Try.underlying28 rfl Try.sizeOf3 (by decide) (show _ + 3 = _ from rfl) | exact Y.fieldAddr rfl rfl Try.underlying28 rfl Try.sizeOf3 (by decide)) ?_
                        refine Jp.store 3 rfl (want_all rfl) rfl rfl Try.sizeOf3 rfl rfl rfl rfl rfl rfl Kp.true ?_
                        refine Jp.over rfl hK12 ?_
                        refine Cd.imp (i := 3) rfl (fun h hh => (show Pt b3 (.cells D.cells.toArray 28) h from by first | (exfalso; omega) | ((try rw [hm] at hh); rw [hD]; (repeat first | rw [if_pos (by omega)] | rw [if_neg (by omega)]); (try unfold s32); exact hh))) ?_
                        exact Cd.meet (hj1 () trivial) ⟨rfl, rfl, trivial⟩ ⟨rfl, rfl, trivial⟩
                      · skip
                        try simp only [decide_eq_false_iff_not, decide_eq_true_eq, Int.not_lt, Int.not_le, Bool.not_eq_false, Bool.not_eq_true, Bool.not_true, Bool.not_false, Bool.not_eq_true', Bool.not_eq_false', beq_eq_false_iff_ne, ne_eq, beq_iff_eq, bne_iff_ne, bne_eq_false_iff_eq, Classical.not_not] at g92
                        refine Cd.plain [(0, false), (1, false), (2, false), (3, false), (4, false), (5, false), (6, false), (7, false), (8, false), (9, false)] rfl rfl ?_
                        refine Jp.y 19 rfl (want_all rfl) rfl rfl Kp.true (Y.move rfl rfl) ?_
                        refine Jp.y 20 rfl (want_all rfl) rfl rfl Kp.true (Y.move rfl rfl) ?_
                        refine Jp.y 21 rfl (want_all rfl) rfl rfl Kp.true (Y.move rfl rfl) ?_
                        refine Jp.call [] [] (immI_spec w hw) 22 rfl (want_all rfl) rfl rfl (Runs.fn rfl Try.call88 rfl) (by decide) (by decide) rfl trivial ?_
                        rintro v105 ρ105 L105 ⟨rfl, rfl, rfl⟩
                        refine ⟨rfl, fun hle105 => ⟨Kp.true, ?_⟩⟩
                        refine Jp.y 23 rfl (want_all rfl) rfl rfl Kp.true (by first | exact Y.fieldAddrP rfl rfl Try.underlying28 rfl Try.sizeOf3 (by decide) (show _ + 1 = _ from rfl) | exact Y.fieldAddr rfl rfl Try.underlying28 rfl Try.sizeOf3 (by decide)) ?_
                        refine Jp.store 3 rfl (want_all rfl) rfl rfl Try.sizeOf3 rfl rfl rfl rfl rfl rfl Kp.true ?_
                        refine Jp.y 24 rfl (want_all rfl) rfl rfl Kp.true (by first | exact Y.fieldAddrP rfl rfl Try.underlying28 rfl Try.sizeOf3 (by decide) (show _ + 2 = _ from rfl) | exact Y.fieldAddr rfl rfl Try.underlying28 rfl Try.sizeOf3 (by decide)) ?_
                        refine Jp.store 3 rfl (want_all rfl) rfl rfl Try.sizeOf3 rfl rfl rfl rfl rfl rfl Kp.true ?_
                        refine Jp.y 25 rfl (want_all rfl) rfl rfl Kp.true (by first | exact Y.fieldAddrP rfl rfl Try.underlying28 rfl Try.sizeOf21 (by decide) (show _ + 4 = _ from rfl) | exact Y.fieldAddr rfl rfl Try.underlying28 rfl Try.sizeOf21 (by decide)) ?_
                        refine Jp.store 3 rfl (want_all rfl) rfl rfl Try.sizeOf21 rfl rfl rfl rfl rfl rfl Kp.true ?_
                        refine Jp.over rfl hK12 ?_
                        refine Cd.imp (i := 3) rfl (fun h hh => (show Pt b3 (.cells D.cells.toArray 28) h from by first | (exfalso; omega) | ((try rw [hm] at hh); rw [hD]; (repeat first | rw [if_pos (by omega)] | rw [if_neg (by omega)]); (try unfold s32); exact hh))) ?_
                        exact Cd.meet (hj1 () trivial) ⟨rfl, rfl, trivial⟩ ⟨rfl, rfl, trivial⟩
                · skip
                  try simp only [decide_eq_false_iff_not, decide_eq_true_eq, Int.not_lt, Int.not_le, Bool.not_eq_false, Bool.not_eq_true, Bool.not_true, Bool.not_false, Bool.not_eq_true', Bool.not_eq_false', beq_eq_false_iff_ne, ne_eq, beq_iff_eq, bne_iff_ne, bne_eq_false_iff_eq, Classical.not_not] at g67
                  refine Jp.skip 68 rfl (want_as rfl rfl rfl rfl) rfl rfl Kp.true ?_
                  refine Jp.skip 69 rfl (want_as rfl rfl rfl rfl) rfl rfl Kp.true ?_
                  refine Jp.y 70 rfl (want_all rfl) rfl rfl Kp.true (Y.pickF rfl rfl rfl) ?_
                  refine Jp.y 64 rfl (want_all rfl) rfl rfl Kp.true (Y.assign rfl rfl) ?_
                  refine Jp.done hK19 ?_
                  refine Cd.condF rfl ?_
                  refine Cd.seq fun K23 hK23 => ?_
                  refine Cd.plain [(0, false), (1, false), (2, false), (3, false), (4, false), (5, false), (6, false)] rfl rfl ?_
                  refine Jp.y 79 rfl (want_all rfl) rfl rfl Kp.true (Y.move rfl rfl) ?_
                  refine Jp.y 80 rfl (want_all rfl) rfl rfl Kp.true (Y.geq rfl rfl rfl) ?_
                  refine Jp.y 81 rfl (want_all rfl) rfl rfl Kp.true (Y.move rfl rfl) ?_
                  refine Jp.split 81 rfl (fun g81 => ?_) (fun g81 => ?_)
                  · skip
                    try simp only [decide_eq_false_iff_not, decide_eq_true_eq, Int.not_lt, Int.not_le, Bool.not_eq_false, Bool.not_eq_true, Bool.not_true, Bool.not_false, Bool.not_eq_true', Bool.not_eq_false', beq_eq_false_iff_ne, ne_eq, beq_iff_eq, bne_iff_ne, bne_eq_false_iff_eq, Classical.not_not] at g81
                    refine Jp.y 82 rfl (want_as rfl rfl rfl rfl) rfl rfl Kp.true (Y.move rfl rfl) ?_
                    refine Jp.y 83 rfl (want_as rfl rfl rfl rfl) rfl rfl Kp.true (Y.leq rfl rfl rfl) ?_
                    refine Jp.y 84 rfl (want_all rfl) rfl rfl Kp.true (Y.pickT rfl rfl rfl) ?_
                    refine Jp.y 78 rfl (want_all rfl) rfl rfl Kp.true (Y.assign rfl rfl) ?_
                    refine Jp.done hK23 ?_
                    refine Cd.cond rfl (fun g78 => ?_) (fun g78 => ?_)
                    · skip
                      try simp only [decide_eq_false_iff_not, decide_eq_true_eq, Int.not_lt, Int.not_le, Bool.not_eq_false, Bool.not_eq_true, Bool.not_true, Bool.not_false, Bool.not_eq_true', Bool.not_eq_false', beq_eq_false_iff_ne, ne_eq, beq_iff_eq, bne_iff_ne, bne_eq_false_iff_eq, Classical.not_not] at g78
                      refine Cd.plain [(0, false), (1, false), (2, false), (3, false), (4, false), (5, false), (6, false), (7, false), (8, false), (9, false)] rfl rfl ?_
                      refine Jp.y 85 rfl (want_all rfl) rfl rfl Kp.true (Y.move rfl rfl) ?_
                      refine Jp.y 86 rfl (want_all rfl) rfl rfl Kp.true (Y.move rfl rfl) ?_
                      refine Jp.y 87 rfl (want_all rfl) rfl rfl Kp.true (Y.move rfl rfl) ?_
                      refine Jp.y 88 rfl (want_all rfl) rfl rfl Kp.true (Y.conv_ rfl rfl Try.underlying3 Try.underlying21 (by first | exact wrap_i32 (by omega) (by omega) | rfl)) ?_
                      refine Jp.y 89 rfl (want_all rfl) rfl rfl Kp.true (by first | exact Y.fieldAddrP rfl rfl Try.underlying28 rfl Try.sizeOf3 (by decide) (show _ + 1 = _ from rfl) | exact Y.fieldAddr rfl rfl Try.underlying28 rfl Try.sizeOf3 (by decide)) ?_
                      refine Jp.store 3 rfl (want_all rfl) rfl rfl Try.sizeOf3 rfl rfl rfl rfl rfl rfl Kp.true ?_
                      refine Jp.y 90 rfl (want_all rfl) rfl rfl Kp.true (by first | exact Y.fieldAddrP rfl rfl Try.underlying28 rfl Try.sizeOf3 (by decide) (show _ + 2 = _ from rfl) | exact Y.fieldAddr rfl rfl Try.underlying28 rfl Try.sizeOf3 (by decide)) ?_
                      refine Jp.store 3 rfl (want_all rfl) rfl rfl Try.sizeOf3 rfl rfl rfl rfl rfl rfl Kp.true ?_
                      refine Jp.y 91 rfl (want_all rfl) rfl rfl Kp.true (by first | exact Y.fieldAddrP rfl rfl Try.underlying28 rfl Try.sizeOf21 (by decide) (show _ + 4 = _ from rfl) | exact Y.fieldAddr rfl rfl Try.underlying28 rfl Try.sizeOf21 (by decide)) ?_
                      refine Jp.store 3 rfl (want_all rfl) rfl rfl Try.sizeOf21 rfl rfl rfl rfl rfl rfl Kp.true ?_
                      refine Jp.over rfl hK12 ?_
                      refine Cd.imp (i := 3) rfl (fun h hh => (show Pt b3 (.cells D.cells.toArray 28) h from by first | (exfalso; omega) | ((try rw [hm] at hh); rw [hD]; (repeat first | rw [if_pos (by omega)] | rw [if_neg (by omega)]); (try unfold s32); exact hh))) ?_
                      exact Cd.meet (hj1 () trivial) ⟨rfl, rfl, trivial⟩ ⟨rfl, rfl, trivial⟩
                    · skip
                      try simp only [decide_eq_false_iff_not, decide_eq_true_eq, Int.not_lt, Int.not_le, Bool.not_eq_false, Bool.not_eq_true, Bool.not_true, Bool.not_false, Bool.not_eq_true', Bool.not_eq_false', beq_eq_false_iff_ne, ne_eq, beq_iff_eq, bne_iff_ne, bne_eq_false_iff_eq, Classical.not_not] at g78
                      refine Cd.seq fun K24 hK24 => ?_
                      refine Cd.plain [(0, false), (1, false), (2, false)] rfl rfl ?_
                      refine Jp.y 93 rfl (want_all rfl) rfl rfl Kp.true (Y.move rfl rfl) ?_
                      refine Jp.y 94 rfl (want_all rfl) rfl rfl Kp.true (Y.geq rfl rfl rfl) ?_
                      refine Jp.y 92 rfl (want_all rfl) rfl rfl Kp.true (Y.assign rfl rfl) ?_
                      refine Jp.done hK24 ?_
                      refine Cd.cond rfl (fun g92 => ?_) (fun g92 => ?_)
                      · skip
                        try simp only [decide_eq_false_iff_not, decide_eq_true_eq, Int.not_lt, Int.not_le, Bool.not_eq_false, Bool.not_eq_true, Bool.not_true, Bool.not_false, Bool.not_eq_true', Bool.not_eq_false', beq_eq_false_iff_ne, ne_eq, beq_iff_eq, bne_iff_ne, bne_eq_false_iff_eq, Classical.not_not] at g92
                        refine Cd.plain [(0, false), (1, false), (2, false), (3, false), (4, false), (5, false), (6, false), (7, false), (8, false)] rfl rfl ?_
                        refine Jp.y 95 rfl (want_all rfl) rfl rfl Kp.true (Y.move rfl rfl) ?_
                        refine Jp.y 96 rfl (want_all rfl) rfl rfl Kp.true (Y.move rfl rfl) ?_
                        refine Jp.y 97 rfl (want_all rfl) rfl rfl Kp.true (Y.move rfl rfl) ?_
                        refine Jp.y 98 rfl (want_all rfl) rfl rfl Kp.true (by first | exact Y.fieldAddrP rfl rfl Try.underlying28 rfl Try.sizeOf3 (by decide) (show _ + 1 = _ from rfl) | exact Y.fieldAddr rfl rfl Try.underlying28 rfl Try.sizeOf3 (by decide)) ?_
                        refine Jp.store 3 rfl (want_all rfl) rfl rfl Try.sizeOf3 rfl rfl rfl rfl rfl rfl Kp.true ?_
                        refine Jp.y 99 rfl (want_all rfl) rfl rfl Kp.true (by first | exact Y.fieldAddrP rfl rfl Try.underlying28 rfl Try.sizeOf3 (by decide) (show _ + 2 = _ from rfl) | exact Y.fieldAddr rfl rfl Try.underlying28 rfl Try.sizeOf3 (by decide)) ?_
                        refine Jp.store 3 rfl (want_all rfl) rfl rfl Try.sizeOf3 rfl rfl rfl rfl rfl rfl Kp.true ?_
                        refine Jp.y 100 rfl (want_all rfl) rfl rfl Kp.true (by first | exact Y.fieldAddrP rfl rfl Try.underlying28 rfl Try.sizeOf3 (by decide) (show _ + 3 = _ from rfl) | exact Y.fieldAddr rfl rfl Try.underlying28 rfl Try.sizeOf3 (by decide)) ?_
                        refine Jp.store 3 rfl (want_all rfl) rfl rfl Try.sizeOf3 rfl rfl rfl rfl rfl rfl Kp.true ?_
                        refine Jp.over rfl hK12 ?_
                        refine Cd.imp (i := 3) rfl (fun h hh => (show Pt b3 (.cells D.cells.toArray 28) h from by first | (exfalso; omega) | ((try rw [hm] at hh); rw [hD]; (repeat first | rw [if_pos (by omega)] | rw [if_neg (by omega)]); (try unfold s32); exact hh))) ?_
                        exact Cd.meet (hj1 () trivial) ⟨rfl, rfl, trivial⟩ ⟨rfl, rfl, trivial⟩
                      · skip
                        try simp only [decide_eq_false_iff_not, decide_eq_true_eq, Int.not_lt, Int.not_le, Bool.not_eq_false, Bool.not_eq_true, Bool.not_true, Bool.not_false, Bool.not_eq_true', Bool.not_eq_false', beq_eq_false_iff_ne, ne_eq, beq_iff_eq, bne_iff_ne, bne_eq_false_iff_eq, Classical.not_not] at g92
                        refine Cd.plain [(0, false), (1, false), (2, false), (3, false), (4, false), (5, false), (6, false), (7, false), (8, false), (9, false)] rfl rfl ?_
                        refine Jp.y 19 rfl (want_all rfl) rfl rfl Kp.true (Y.move rfl rfl) ?_
                        refine Jp.y 20 rfl (want_all rfl) rfl rfl Kp.true (Y.move rfl rfl) ?_
                        refine Jp.y 21 rfl (want_all rfl) rfl rfl Kp.true (Y.move rfl rfl) ?_
                        refine Jp.call [] [] (immI_spec w hw) 22 rfl (want_all rfl) rfl rfl (Runs.fn rfl Try.call88 rfl) (by decide) (by decide) rfl trivial ?_
                        rintro v106 ρ106 L106 ⟨rfl, rfl, rfl⟩
                        refine ⟨rfl, fun hle106 => ⟨Kp.true, ?_⟩⟩
                        refine Jp.y 23 rfl (want_all rfl) rfl rfl Kp.true (by first | exact Y.fieldAddrP rfl rfl Try.underlying28 rfl Try.sizeOf3 (by decide) (show _ + 1 = _ from rfl) | exact Y.fieldAddr rfl rfl Try.underlying28 rfl Try.sizeOf3 (by decide)) ?_
                        refine Jp.store 3 rfl (want_all rfl) rfl rfl Try.sizeOf3 rfl rfl rfl rfl rfl rfl Kp.true ?_
                        refine Jp.y 24 rfl (want_all rfl) rfl rfl Kp.true (by first | exact Y.fieldAddrP rfl rfl Try.underlying28 rfl Try.sizeOf3 (by decide) (show _ + 2 = _ from rfl) | exact Y.fieldAddr rfl rfl Try.underlying28 rfl Try.sizeOf3 (by decide)) ?_
                        refine Jp.store 3 rfl (want_all rfl) rfl rfl Try.sizeOf3 rfl rfl rfl rfl rfl rfl Kp.true ?_
                        refine Jp.y 25 rfl (want_all rfl) rfl rfl Kp.true (by first | exact Y.fieldAddrP rfl rfl Try.underlying28 rfl Try.sizeOf21 (by decide) (show _ + 4 = _ from rfl) | exact Y.fieldAddr rfl rfl Try.underlying28 rfl Try.sizeOf21 (by decide)) ?_
                        refine Jp.store 3 rfl (want_all rfl) rfl rfl Try.sizeOf21 rfl rfl rfl rfl rfl rfl Kp.true ?_
                        refine Jp.over rfl hK12 ?_
                        refine Cd.imp (i := 3) rfl (fun h hh => (show Pt b3 (.cells D.cells.toArray 28) h from by first | (exfalso; omega) | ((try rw [hm] at hh); rw [hD]; (repeat first | rw [if_pos (by omega)] | rw [if_neg (by omega)]); (try unfold s32); exact hh))) ?_
                        exact Cd.meet (hj1 () trivial) ⟨rfl, rfl, trivial⟩ ⟨rfl, rfl, trivial⟩
                  · skip
                    try simp only [decide_eq_false_iff_not, decide_eq_true_eq, Int.not_lt, Int.not_le, Bool.not_eq_false, Bool.not_eq_true, Bool.not_true, Bool.not_false, Bool.not_eq_true', Bool.not_eq_false', beq_eq_false_iff_ne, ne_eq, beq_iff_eq, bne_iff_ne, bne_eq_false_iff_eq, Classical.not_not] at g81
                    refine Jp.skip 82 rfl (want_as rfl rfl rfl rfl) rfl rfl Kp.true ?_
                    refine Jp.skip 83 rfl (want_as rfl rfl rfl rfl) rfl rfl Kp.true ?_
                    refine Jp.y 84 rfl (want_all rfl) rfl rfl Kp.true (Y.pickF rfl rfl rfl) ?_
                    refine Jp.y 78 rfl (want_all rfl) rfl rfl Kp.true (Y.assign rfl rfl) ?_
                    refine Jp.done hK23 ?_
                    refine Cd.condF rfl ?_
                    refine Cd.seq fun K25 hK25 => ?_
                    refine Cd.plain [(0, false), (1, false), (2, false)] rfl rfl ?_
                    refine Jp.y 93 rfl (want_all rfl) rfl rfl Kp.true (Y.move rfl rfl) ?_
                    refine Jp.y 94 rfl (want_all rfl) rfl rfl Kp.true (Y.geq rfl rfl rfl) ?_
                    refine Jp.y 92 rfl (want_all rfl) rfl rfl Kp.true (Y.assign rfl rfl) ?_
                    refine Jp.done hK25 ?_
                    refine Cd.cond rfl (fun g92 => ?_) (fun g92 => ?_)
                    · skip
                      try simp only [decide_eq_false_iff_not, decide_eq_true_eq, Int.not_lt, Int.not_le, Bool.not_eq_false, Bool.not_eq_true, Bool.not_true, Bool.not_false, Bool.not_eq_true', Bool.not_eq_false', beq_eq_false_iff_ne, ne_eq, beq_iff_eq, bne_iff_ne, bne_eq_false_iff_eq, Classical.not_not] at g92
                      refine Cd.plain [(0, false), (1, false), (2, false), (3, false), (4, false), (5, false), (6, false), (7, false), (8, false)] rfl rfl ?_
                      refine Jp.y 95 rfl (want_all rfl) rfl rfl Kp.true (Y.move rfl rfl) ?_
                      refine Jp.y 96 rfl (want_all rfl) rfl rfl Kp.true (Y.move rfl rfl) ?_
                      refine Jp.y 97 rfl (want_all rfl) rfl rfl Kp.true (Y.move rfl rfl) ?_
                      refine Jp.y 98 rfl (want_all rfl) rfl rfl Kp.true (by first | exact Y.fieldAddrP rfl rfl Try.underlying28 rfl Try.sizeOf3 (by decide) (show _ + 1 = _ from rfl) | exact Y.fieldAddr rfl rfl Try.underlying28 rfl Try.sizeOf3 (by decide)) ?_
                      refine Jp.store 3 rfl (want_all rfl) rfl rfl Try.sizeOf3 rfl rfl rfl rfl rfl rfl Kp.true ?_
                      refine Jp.y 99 rfl (want_all rfl) rfl rfl Kp.true (by first | exact Y.fieldAddrP rfl rfl Try.underlying28 rfl Try.sizeOf3 (by decide) (show _ + 2 = _ from rfl) | exact Y.fieldAddr rfl rfl Try.underlying28 rfl Try.sizeOf3 (by decide)) ?_
                      refine Jp.store 3 rfl (want_all rfl) rfl rfl Try.sizeOf3 rfl rfl rfl rfl rfl rfl Kp.true ?_
                      refine Jp.y 100 rfl (want_all rfl) rfl rfl Kp.true (by first | exact Y.fieldAddrP rfl rfl Try.underlying28 rfl Try.sizeOf3 (by decide) (show _ + 3 = _ from rfl) | exact Y.fieldAddr rfl rfl Try.underlying28 rfl Try.sizeOf3 (by decide)) ?_
                      refine Jp.store 3 rfl (want_all rfl) rfl rfl Try.sizeOf3 rfl rfl rfl rfl rfl rfl Kp.true ?_
                      refine Jp.over rfl hK12 ?_
                      refine Cd.imp (i := 3) rfl (fun h hh => (show Pt b3 (.cells D.cells.toArray 28) h from by first | (exfalso; omega) | ((try rw [hm] at hh); rw [hD]; (repeat first | rw [if_pos (by omega)] | rw [if_neg (by omega)]); (try unfold s32); exact hh))) ?_
                      exact Cd.meet (hj1 () trivial) ⟨rfl, rfl, trivial⟩ ⟨rfl, rfl, trivial⟩
                    · skip
                      try simp only [decide_eq_false_iff_not, decide_eq_true_eq, Int.not_lt, Int.not_le, Bool.not_eq_false, Bool.not_eq_true, Bool.not_true, Bool.not_false, Bool.not_eq_true', Bool.not_eq_false', beq_eq_false_iff_ne, ne_eq, beq_iff_eq, bne_iff_ne, bne_eq_false_iff_eq, Classical.not_not] at g92
                      refine Cd.plain [(0, false), (1, false), (2, false), (3, false), (4, false), (5, false), (6, false), (7, false), (8, false), (9, false)] rfl rfl ?_
                      refine Jp.y 19 rfl (want_all rfl) rfl rfl Kp.true (Y.move rfl rfl) ?_
                      refine Jp.y 20 rfl (want_all rfl) rfl rfl Kp.true (Y.move rfl rfl) ?_
                      refine Jp.y 21 rfl (want_all rfl) rfl rfl Kp.true (Y.move rfl rfl) ?_
                      refine Jp.call [] [] (immI_spec w hw) 22 rfl (want_all rfl) rfl rfl (Runs.fn rfl Try.call88 rfl) (by decide) (by decide) rfl trivial ?_
                      rintro v107 ρ107 L107 ⟨rfl, rfl, rfl⟩
                      refine ⟨rfl, fun hle107 => ⟨Kp.true, ?_⟩⟩
                      refine Jp.y 23 rfl (want_all rfl) rfl rfl Kp.true (by first | exact Y.fieldAddrP rfl rfl Try.underlying28 rfl Try.sizeOf3 (by decide) (show _ + 1 = _ from rfl) | exact Y.fieldAddr rfl rfl Try.underlying28 rfl Try.sizeOf3 (by decide)) ?_
                      refine Jp.store 3 rfl (want_all rfl) rfl rfl Try.sizeOf3 rfl rfl rfl rfl rfl rfl Kp.true ?_
                      refine Jp.y 24 rfl (want_all rfl) rfl rfl Kp.true (by first | exact Y.fieldAddrP rfl rfl Try.underlying28 rfl Try.sizeOf3 (by decide) (show _ + 2 = _ from rfl) | exact Y.fieldAddr rfl rfl Try.underlying28 rfl Try.sizeOf3 (by decide)) ?_
                      refine Jp.store 3 rfl (want_all rfl) rfl rfl Try.sizeOf3 rfl rfl rfl rfl rfl rfl Kp.true ?_
                      refine Jp.y 25 rfl (want_all rfl) rfl rfl Kp.true (by first | exact Y.fieldAddrP rfl rfl Try.underlying28 rfl Try.sizeOf21 (by decide) (show _ + 4 = _ from rfl) | exact Y.fieldAddr rfl rfl Try.underlying28 rfl Try.sizeOf21 (by decide)) ?_
                      refine Jp.store 3 rfl (want_all rfl) rfl rfl Try.sizeOf21 rfl rfl rfl rfl rfl rfl Kp.true ?_
                      refine Jp.over rfl hK12 ?_
                      refine Cd.imp (i := 3) rfl (fun h hh => (show Pt b3 (.cells D.cells.toArray 28) h from by first | (exfalso; omega) | ((try rw [hm] at hh); rw [hD]; (repeat first | rw [if_pos (by omega)] | rw [if_neg (by omega)]); (try unfold s32); exact hh))) ?_
                      exact Cd.meet (hj1 () trivial) ⟨rfl, rfl, trivial⟩ ⟨rfl, rfl, trivial⟩
            · skip
              try simp only [decide_eq_false_iff_not, decide_eq_true_eq, Int.not_lt, Int.not_le, Bool.not_eq_false, Bool.not_eq_true, Bool.not_true, Bool.not_false, Bool.not_eq_true', Bool.not_eq_false', beq_eq_false_iff_ne, ne_eq, beq_iff_eq, bne_iff_ne, bne_eq_false_iff_eq, Classical.not_not] at g53
              refine Jp.skip 54 rfl (want_as rfl rfl rfl rfl) rfl rfl Kp.true ?_
              refine Jp.skip 55 rfl (want_as rfl rfl rfl rfl) rfl rfl Kp.true ?_
              refine Jp.y 56 rfl (want_all rfl) rfl rfl Kp.true (Y.pickF rfl rfl rfl) ?_
              refine Jp.y 50 rfl (want_all rfl) rfl rfl Kp.true (Y.assign rfl rfl) ?_
              refine Jp.done hK18 ?_
              refine Cd.condF rfl ?_
              refine Cd.seq fun K26 hK26 => ?_
              refine Cd.plain [(0, false), (1, false), (2, false), (3, false), (4, false), (5, false), (6, false)] rfl rfl ?_
              refine Jp.y 65 rfl (want_all rfl) rfl rfl Kp.true (Y.move rfl rfl) ?_
              refine Jp.y 66 rfl (want_all rfl) rfl rfl Kp.true (Y.geq rfl rfl rfl) ?_
              refine Jp.y 67 rfl (want_all rfl) rfl rfl Kp.true (Y.move rfl rfl) ?_
              refine Jp.split 67 rfl (fun g67 => ?_) (fun g67 => ?_)
              · skip
                try simp only [decide_eq_false_iff_not, decide_eq_true_eq, Int.not_lt, Int.not_le, Bool.not_eq_false, Bool.not_eq_true, Bool.not_true, Bool.not_false, Bool.not_eq_true', Bool.not_eq_false', beq_eq_false_iff_ne, ne_eq, beq_iff_eq, bne_iff_ne, bne_eq_false_iff_eq, Classical.not_not] at g67
                refine Jp.y 68 rfl (want_as rfl rfl rfl rfl) rfl rfl Kp.true (Y.move rfl rfl) ?_
                refine Jp.y 69 rfl (want_as rfl rfl rfl rfl) rfl rfl Kp.true (Y.leq rfl rfl rfl) ?_
                refine Jp.y 70 rfl (want_all rfl) rfl rfl Kp.true (Y.pickT rfl rfl rfl) ?_
                refine Jp.y 64 rfl (want_all rfl) rfl rfl Kp.true (Y.assign rfl rfl) ?_
                refine Jp.done hK26 ?_
                refine Cd.cond rfl (fun g64 => ?_) (fun g64 => ?_)
                · skip
                  try simp only [decide_eq_false_iff_not, decide_eq_true_eq, Int.not_lt, Int.not_le, Bool.not_eq_false, Bool.not_eq_true, Bool.not_true, Bool.not_false, Bool.not_eq_true', Bool.not_eq_false', beq_eq_false_iff_ne, ne_eq, beq_iff_eq, bne_iff_ne, bne_eq_false_iff_eq, Classical.not_not] at g64
                  refine Cd.plain [(0, false), (1, false), (2, false), (3, false), (4, false), (5, false), (6, false), (7, false), (8, false), (9, false)] rfl rfl ?_
                  refine Jp.y 71 rfl (want_all rfl) rfl rfl Kp.true (Y.move rfl rfl) ?_
                  refine Jp.y 72 rfl (want_all rfl) rfl rfl Kp.true (Y.move rfl rfl) ?_
                  refine Jp.y 73 rfl (want_all rfl) rfl rfl Kp.true (Y.move rfl rfl) ?_
                  refine Jp.call [] [] (immS_spec w hw) 74 rfl (want_all rfl) rfl rfl (Runs.fn rfl Try.call87 rfl) (by decide) (by decide) rfl trivial ?_
                  rintro v108 ρ108 L108 ⟨rfl, rfl, rfl⟩
                  refine ⟨rfl, fun hle108 => ⟨Kp.true, ?_⟩⟩
                  refine Jp.y 75 rfl (want_all rfl) rfl rfl Kp.true (by first | exact Y.fieldAddrP rfl rfl Try.underlying28 rfl Try.sizeOf3 (by decide) (show _ + 2 = _ from rfl) | exact Y.fieldAddr rfl rfl Try.underlying28 rfl Try.sizeOf3 (by decide)) ?_
                  refine Jp.store 3 rfl (want_all rfl) rfl rfl Try.sizeOf3 rfl rfl rfl rfl rfl rfl Kp.true ?_
                  refine Jp.y 76 rfl (want_all rfl) rfl rfl Kp.true (by first | exact Y.fieldAddrP rfl rfl Try.underlying28 rfl Try.sizeOf3 (by decide) (show _ + 3 = _ from rfl) | exact Y.fieldAddr rfl rfl Try.underlying28 rfl Try.sizeOf3 (by decide)) ?_
                  refine Jp.store 3 rfl (want_all rfl) rfl rfl Try.sizeOf3 rfl rfl rfl rfl rfl rfl Kp.true ?_
                  refine Jp.y 77 rfl (want_all rfl) rfl rfl Kp.true (by first | exact Y.fieldAddrP rfl rfl Try.underlying28 rfl Try.sizeOf21 (by decide) (show _ + 4 = _ from rfl) | exact Y.fieldAddr rfl rfl Try.underlying28 rfl Try.sizeOf21 (by decide)) ?_
                  refine Jp.store 3 rfl (want_all rfl) rfl rfl Try.sizeOf21 rfl rfl rfl rfl rfl rfl Kp.true ?_
                  refine Jp.over rfl hK12 ?_
                  refine Cd.imp (i := 3) rfl (fun h hh => (show Pt b3 (.cells D.cells.toArray 28) h from by first | (exfalso; omega) | ((try rw [hm] at hh); rw [hD]; (repeat first | rw [if_pos (by omega)] | rw [if_neg (by omega)]); (try unfold s32); exact hh))) ?_
                  exact Cd.meet (hj1 () trivial) ⟨rfl, rfl, trivial⟩ ⟨rfl, rfl, trivial⟩
                · skip
                  try simp only [decide_eq_false_iff_not, decide_eq_true_eq, Int.not_lt, Int.not_le, Bool.not_eq_false, Bool.not_eq_true, Bool.not_true, Bool.not_false, Bool.not_eq_true', Bool.not_eq_false', beq_eq_false_iff_ne, ne_eq, beq_iff_eq, bne_iff_ne, bne_eq_false_iff_eq, Classical.not_not] at g64
                  refine Cd.seq fun K27 hK27 => ?_
                  refine Cd.plain [(0, false), (1, false), (2, false), (3, false), (4, false), (5, false), (6, false)] rfl rfl ?_
                  refine Jp.y 79 rfl (want_all rfl) rfl rfl Kp.true (Y.move rfl rfl) ?_
                  refine Jp.y 80 rfl (want_all rfl) rfl rfl Kp.true (Y.geq rfl rfl rfl) ?_
                  refine Jp.y 81 rfl (want_all rfl) rfl rfl Kp.true (Y.move rfl rfl) ?_
                  refine Jp.split 81 rfl (fun g81 => ?_) (fun g81 => ?_)
                  · skip
                    try simp only [decide_eq_false_iff_not, decide_eq_true_eq, Int.not_lt, Int.not_le, Bool.not_eq_false, Bool.not_eq_true, Bool.not_true, Bool.not_false, Bool.not_eq_true', Bool.not_eq_false', beq_eq_false_iff_ne, ne_eq, beq_iff_eq, bne_iff_ne, bne_eq_false_iff_eq, Classical.not_not] at g81
                    refine Jp.y 82 rfl (want_as rfl rfl rfl rfl) rfl rfl Kp.true (Y.move rfl rfl) ?_
                    refine Jp.y 83 rfl (want_as rfl rfl rfl rfl) rfl rfl Kp.true (Y.leq rfl rfl rfl) ?_
                    refine Jp.y 84 rfl (want_all rfl) rfl rfl Kp.true (Y.pickT rfl rfl rfl) ?_
                    refine Jp.y 78 rfl (want_all rfl) rfl rfl Kp.true (Y.assign rfl rfl) ?_
                    refine Jp.done hK27 ?_
                    refine Cd.cond rfl (fun g78 => ?_) (fun g78 => ?_)
                    · skip
                      try simp only [decide_eq_false_iff_not, decide_eq_true_eq, Int.not_lt, Int.not_le, Bool.not_eq_false, Bool.not_eq_true, Bool.not_true, Bool.not_false, Bool.not_eq_true', Bool.not_eq_false', beq_eq_false_iff_ne, ne_eq, beq_iff_eq, bne_iff_ne, bne_eq_false_iff_eq, Classical.not_not] at g78
                      refine Cd.plain [(0, false), (1, false), (2, false), (3, false), (4, false), (5, false), (6, false), (7, false), (8, false), (9, false)] rfl rfl ?_
                      refine Jp.y 85 rfl (want_all rfl) rfl rfl Kp.true (Y.move rfl rfl) ?_
                      refine Jp.y 86 rfl (want_all rfl) rfl rfl Kp.true (Y.move rfl rfl) ?_
                      refine Jp.y 87 rfl (want_all rfl) rfl rfl Kp.true (Y.move rfl rfl) ?_
                      refine Jp.y 88 rfl (want_all rfl) rfl rfl Kp.true (Y.conv_ rfl rfl Try.underlying3 Try.underlying21 (by first | exact wrap_i32 (by omega) (by omega) | rfl)) ?_
                      refine Jp.y 89 rfl (want_all rfl) rfl rfl Kp.true (by first | exact Y.fieldAddrP rfl rfl Try.underlying28 rfl Try.sizeOf3 (by decide) (show _ + 1 = _ from rfl) | exact Y.fieldAddr rfl rfl Try.underlying28 rfl Try.sizeOf3 (by decide)) ?_
                      refine Jp.store 3 rfl (want_all rfl) rfl rfl Try.sizeOf3 rfl rfl rfl rfl rfl rfl Kp.true ?_
                      refine Jp.y 90 rfl (want_all rfl) rfl rfl Kp.true (by first | exact Y.fieldAddrP rfl rfl Try.underlying28 rfl Try.sizeOf3 (by decide) (show _ + 2 = _ from rfl) | exact Y.fieldAddr rfl rfl Try.underlying28 rfl Try.sizeOf3 (by decide)) ?_
                      refine Jp.store 3 rfl (want_all rfl) rfl rfl Try.sizeOf3 rfl rfl rfl rfl rfl rfl Kp.true ?_
                      refine Jp.y 91 rfl (want_all rfl) rfl rfl Kp.true (by first | exact Y.fieldAddrP rfl rfl Try.underlying28 rfl Try.sizeOf21 (by decide) (show _ + 4 = _ from rfl) | exact Y.fieldAddr rfl rfl Try.underlying28 rfl Try.sizeOf21 (by decide)) ?_
                      refine Jp.store 3 rfl (want_all rfl) rfl rfl Try.sizeOf21 rfl rfl rfl rfl rfl rfl Kp.true ?_
                      refine Jp.over rfl hK12 ?_
                      refine Cd.imp (i := 3) rfl (fun h hh => (show Pt b3 (.cells D.cells.toArray 28) h from by first | (exfalso; omega) | ((try rw [hm] at hh); rw [hD]; (repeat first | rw [if_pos (by omega)] | rw [if_neg (by omega)]); (try unfold s32); exact hh))) ?_
                      exact Cd.meet (hj1 () trivial) ⟨rfl, rfl, trivial⟩ ⟨rfl, rfl, trivial⟩
                    · skip
                      try simp only [decide_eq_false_iff_not, decide_eq_true_eq, Int.not_lt, Int.not_le, Bool.not_eq_false, Bool.not_eq_true, Bool.not_true, Bool.not_false, Bool.not_eq_true', Bool.not_eq_false', beq_eq_false_iff_ne, ne_eq, beq_iff_eq, bne_iff_ne, bne_eq_false_iff_eq, Classical.not_not] at g78
                      refine Cd.seq fun K28 hK28 => ?_
                      refine Cd.plain [(0, false), (1, false), (2, false)] rfl rfl ?_
                      refine Jp.y 93 rfl (want_all rfl) rfl rfl Kp.true (Y.move rfl rfl) ?_
                      refine Jp.y 94 rfl (want_all rfl) rfl rfl Kp.true (Y.geq rfl rfl rfl) ?_
                      refine Jp.y 92 rfl (want_all rfl) rfl rfl Kp.true (Y.assign rfl rfl) ?_
                      refine Jp.done hK28 ?_
                      refine Cd.cond rfl (fun g92 => ?_) (fun g92 => ?_)
                      · skip
                        try simp only [decide_eq_false_iff_not, decide_eq_true_eq, Int.not_lt, Int.not_le, Bool.not_eq_false, Bool.not_eq_true, Bool.not_true, Bool.not_false, Bool.not_eq_true', Bool.not_eq_false', beq_eq_false_iff_ne, ne_eq, beq_iff_eq, bne_iff_ne, bne_eq_false_iff_eq, Classical.not_not] at g92
                        refine Cd.plain [(0, false), (1, false), (2, false), (3, false), (4, false), (5, false), (6, false), (7, false), (8, false)] rfl rfl ?_
                        refine Jp.y 95 rfl (want_all rfl) rfl rfl Kp.true (Y.move rfl rfl) ?_
                        refine Jp.y 96 rfl (want_all rfl) rfl rfl Kp.true (Y.move rfl rfl) ?_
                        refine Jp.y 97 rfl (want_all rfl) rfl rfl Kp.true (Y.move rfl rfl) ?_
                        refine Jp.y 98 rfl (want_all rfl) rfl rfl Kp.true (by first | exact Y.fieldAddrP rfl rfl Try.underlying28 rfl Try.sizeOf3 (by decide) (show _ + 1 = _ from rfl) | exact Y.fieldAddr rfl rfl Try.underlying28 rfl Try.sizeOf3 (by decide)) ?_
                        refine Jp.store 3 rfl (want_all rfl) rfl rfl Try.sizeOf3 rfl rfl rfl rfl rfl rfl Kp.true ?_
                        refine Jp.y 99 rfl (want_all rfl) rfl rfl Kp.true (by first | exact Y.fieldAddrP rfl rfl Try.underlying28 rfl Try.sizeOf3 (by decide) (show _ + 2 = _ from rfl) | exact Y.fieldAddr rfl rfl Try.underlying28 rfl Try.sizeOf3 (by decide)) ?_
                        refine Jp.store 3 rfl (want_all rfl) rfl rfl Try.sizeOf3 rfl rfl rfl rfl rfl rfl Kp.true ?_
                        refine Jp.y 100 rfl (want_all rfl) rfl rfl Kp.true (by first | exact Y.fieldAddrP rfl rfl Try.underlying28 rfl Try.sizeOf3 (by decide) (show _ + 3 = _ from rfl) | exact Y.fieldAddr rfl rfl Try.underlying28 rfl Try.sizeOf3 (by decide)) ?_
                        refine Jp.store 3 rfl (want_all rfl) rfl rfl Try.sizeOf3 rfl rfl rfl rfl rfl rfl Kp.true ?_
                        refine Jp.over rfl hK12 ?_
                        refine Cd.imp (i := 3) rfl (fun h hh => (show Pt b3 (.cells D.cells.toArray 28) h from by first | (exfalso; omega) | ((try rw [hm] at hh); rw [hD]; (repeat first | rw [if_pos (by omega)] | rw [if_neg (by omega)]); (try unfold s32); exact hh))) ?_
                        exact Cd.meet (hj1 () trivial) ⟨rfl, rfl, trivial⟩ ⟨rfl, rfl, trivial⟩
                      · skip
                        try simp only [decide_eq_false_iff_not, decide_eq_true_eq, Int.not_lt, Int.not_le, Bool.not_eq_false, Bool.not_eq_true, Bool.not_true, Bool.not_false, Bool.not_eq_true', Bool.not_eq_false', beq_eq_false_iff_ne, ne_eq, beq_iff_eq, bne_iff_ne, bne_eq_false_iff_eq, Classical.not_not] at g92
                        refine Cd.plain [(0, false), (1, false), (2, false), (3, false), (4, false), (5, false), (6, false), (7, false), (8, false), (9, false)] rfl rfl ?_
                        refine Jp.y 19 rfl (want_all rfl) rfl rfl Kp.true (Y.move rfl rfl) ?_
                        refine Jp.y 20 rfl (want_all rfl) rfl rfl Kp.true (Y.move rfl rfl) ?_
                        refine Jp.y 21 rfl (want_all rfl) rfl rfl Kp.true (Y.move rfl rfl) ?_
                        refine Jp.call [] [] (immI_spec w hw) 22 rfl (want_all rfl) rfl rfl (Runs.fn rfl Try.call88 rfl) (by decide) (by decide) rfl trivial ?_
                        rintro v109 ρ109 L109 ⟨rfl, rfl, rfl⟩
                        refine ⟨rfl, fun hle109 => ⟨Kp.true, ?_⟩⟩
                        refine Jp.y 23 rfl (want_all rfl) rfl rfl Kp.true (by first | exact Y.fieldAddrP rfl rfl Try.underlying28 rfl Try.sizeOf3 (by decide) (show _ + 1 = _ from rfl) | exact Y.fieldAddr rfl rfl Try.underlying28 rfl Try.sizeOf3 (by decide)) ?_
                        refine Jp.store 3 rfl (want_all rfl) rfl rfl Try.sizeOf3 rfl rfl rfl rfl rfl rfl Kp.true ?_
                        refine Jp.y 24 rfl (want_all rfl) rfl rfl Kp.true (by first | exact Y.fieldAddrP rfl rfl Try.underlying28 rfl Try.sizeOf3 (by decide) (show _ + 2 = _ from rfl) | exact Y.fieldAddr rfl rfl Try.underlying28 rfl Try.sizeOf3 (by decide)) ?_
                        refine Jp.store 3 rfl (want_all rfl) rfl rfl Try.sizeOf3 rfl rfl rfl rfl rfl rfl Kp.true ?_
                        refine Jp.y 25 rfl (want_all rfl) rfl rfl Kp.true (by first | exact Y.fieldAddrP rfl rfl Try.underlying28 rfl Try.sizeOf21 (by decide) (show _ + 4 = _ from rfl) | exact Y.fieldAddr rfl rfl Try.underlying28 rfl Try.sizeOf21 (by decide)) ?_
                        refine Jp.store 3 rfl (want_all rfl) rfl rfl Try.sizeOf21 rfl rfl rfl rfl rfl rfl Kp.true ?_
                        refine Jp.over rfl hK12 ?_
                        refine Cd.imp (i := 3) rfl (fun h hh => (show Pt b3 (.cells D.cells.toArray 28) h from by first | (exfalso; omega) | ((try rw [hm] at hh); rw [hD]; (repeat first | rw [if_pos (by omega)] | rw [if_neg (by omega)]); (try unfold s32); exact hh))) ?_
                        exact Cd.meet (hj1 () trivial) ⟨rfl, rfl, trivial⟩ ⟨rfl, rfl, trivial⟩
                  · skip
                    try simp only [decide_eq_false_iff_not, decide_eq_true_eq, Int.not_lt, Int.not_le, Bool.not_eq_false, Bool.not_eq_true, Bool.not_true, Bool.not_false, Bool.not_eq_true', Bool.not_eq_false', beq_eq_false_iff_ne, ne_eq, beq_iff_eq, bne_iff_ne, bne_eq_false_iff_eq, Classical.not_not] at g81
                    refine Jp.skip 82 rfl (want_as rfl rfl rfl rfl) rfl rfl Kp.true ?_
                    refine Jp.skip 83 rfl (want_as rfl rfl rfl rfl) rfl rfl Kp.true ?_
                    refine Jp.y 84 rfl (want_all rfl) rfl rfl Kp.true (Y.pickF rfl rfl rfl) ?_
                    refine Jp.y 78 rfl (want_all rfl) rfl rfl Kp.true (Y.assign rfl rfl) ?_
                    refine Jp.done hK27 ?_
                    refine Cd.condF rfl ?_
                    refine Cd.seq fun K29 hK29 => ?_
                    refine Cd.plain [(0, false), (1, false), (2, false)] rfl rfl ?_
                    refine Jp.y 93 rfl (want_all rfl) rfl rfl Kp.true (Y.move rfl rfl) ?_
                    refine Jp.y 94 rfl (want_all rfl) rfl rfl Kp.true (Y.geq rfl rfl rfl) ?_
                    refine Jp.y 92 rfl (want_all rfl) rfl rfl Kp.true (Y.assign rfl rfl) ?_
                    refine Jp.done hK29 ?_
                    refine Cd.cond rfl (fun g92 => ?_) (fun g92 => ?_)
                    · skip
                      try simp only [decide_eq_false_iff_not, decide_eq_true_eq, Int.not_lt, Int.not_le, Bool.not_eq_false, Bool.not_eq_true, Bool.not_true, Bool.not_false, Bool.not_eq_true', Bool.not_eq_false', beq_eq_false_iff_ne, ne_eq, beq_iff_eq, bne_iff_ne, bne_eq_false_iff_eq, Classical.not_not] at g92
                      refine Cd.plain [(0, false), (1, false), (2, false), (3, false), (4, false), (5, false), (6, false), (7, false), (8, false)] rfl rfl ?_
                      refine Jp.y 95 rfl (want_all rfl) rfl rfl Kp.true (Y.move rfl rfl) ?_
                      refine Jp.y 96 rfl (want_all rfl) rfl rfl Kp.true (Y.move rfl rfl) ?_
                      refine Jp.y 97 rfl (want_all rfl) rfl rfl Kp.true (Y.move rfl rfl) ?_
                      refine Jp.y 98 rfl (want_all rfl) rfl rfl Kp.true (by first | exact Y.fieldAddrP rfl rfl Try.underlying28 rfl Try.sizeOf3 (by decide) (show _ + 1 = _ from rfl) | exact Y.fieldAddr rfl rfl Try.underlying28 rfl Try.sizeOf3 (by decide)) ?_
                      refine Jp.store 3 rfl (want_all rfl) rfl rfl Try.sizeOf3 rfl rfl rfl rfl rfl rfl Kp.true ?_
                      refine Jp.y 99 rfl (want_all rfl) rfl rfl Kp.true (by first | exact Y.fieldAddrP rfl rfl Try.underlying28 rfl Try.sizeOf3 (by decide) (show _ + 2 = _ from rfl) | exact Y.fieldAddr rfl rfl Try.underlying28 rfl Try.sizeOf3 (by decide)) ?_
                      refine Jp.store 3 rfl (want_all rfl) rfl rfl Try.sizeOf3 rfl rfl rfl rfl rfl rfl Kp.true ?_
                      refine Jp.y 100 rfl (want_all rfl) rfl rfl Kp.true (by first | exact Y.fieldAddrP rfl rfl Try.underlying28 rfl Try.sizeOf3 (by decide) (show _ + 3 = _ from rfl) | exact Y.fieldAddr rfl rfl Try.underlying28 rfl Try.sizeOf3 (by decide)) ?_
                      refine Jp.store 3 rfl (want_all rfl) rfl rfl Try.sizeOf3 rfl rfl rfl rfl rfl rfl Kp.true ?_
                      refine Jp.over rfl hK12 ?_
                      refine Cd.imp (i := 3) rfl (fun h hh => (show Pt b3 (.cells D.cells.toArray 28) h from by first | (exfalso; omega) | ((try rw [hm] at hh); rw [hD]; (repeat first | rw [if_pos (by omega)] | rw [if_neg (by omega)]); (try unfold s32); exact hh))) ?_
                      exact Cd.meet (hj1 () trivial) ⟨rfl, rfl, trivial⟩ ⟨rfl, rfl, trivial⟩
                    · skip
                      try simp only [decide_eq_false_iff_not, decide_eq_true_eq, Int.not_lt, Int.not_le, Bool.not_eq_false, Bool.not_eq_true, Bool.not_true, Bool.not_false, Bool.not_eq_true', Bool.not_eq_false', beq_eq_false_iff_ne, ne_eq, beq_iff_eq, bne_iff_ne, bne_eq_false_iff_eq, Classical.not_not] at g92
                      refine Cd.plain [(0, false), (1, false), (2, false), (3, false), (4, false), (5, false), (6, false), (7, false), (8, false), (9, false)] rfl rfl ?_
                      refine Jp.y 19 rfl (want_all rfl) rfl rfl Kp.true (Y.move rfl rfl) ?_
                      refine Jp.y 20 rfl (want_all rfl) rfl rfl Kp.true (Y.move rfl rfl) ?_
                      refine Jp.y 21 rfl (want_all rfl) rfl rfl Kp.true (Y.move rfl rfl) ?_
                      refine Jp.call [] [] (immI_spec w hw) 22 rfl (want_all rfl) rfl rfl (Runs.fn rfl Try.call88 rfl) (by decide) (by decide) rfl trivial ?_
                      rintro v110 ρ110 L110 ⟨rfl, rfl, rfl⟩
                      refine ⟨rfl, fun hle110 => ⟨Kp.true, ?_⟩⟩
                      refine Jp.y 23 rfl (want_all rfl) rfl rfl Kp.true (by first | exact Y.fieldAddrP rfl rfl Try.underlying28 rfl Try.sizeOf3 (by decide) (show _ + 1 = _ from rfl) | exact Y.fieldAddr rfl rfl Try.underlying28 rfl Try.sizeOf3 (by decide)) ?_
                      refine Jp.store 3 rfl (want_all rfl) rfl rfl Try.sizeOf3 rfl rfl rfl rfl rfl rfl Kp.true ?_
                      refine Jp.y 24 rfl (want_all rfl) rfl rfl Kp.true (by first | exact Y.fieldAddrP rfl rfl Try.underlying28 rfl Try.sizeOf3 (by decide) (show _ + 2 = _ from rfl) | exact Y.fieldAddr rfl rfl Try.underlying28 rfl Try.sizeOf3 (by decide)) ?_
                      refine Jp.store 3 rfl (want_all rfl) rfl rfl Try.sizeOf3 rfl rfl rfl rfl rfl rfl Kp.true ?_
                      refine Jp.y 25 rfl (want_all rfl) rfl rfl Kp.true (by first | exact Y.fieldAddrP rfl rfl Try.underlying28 rfl Try.sizeOf21 (by decide) (show _ + 4 = _ from rfl) | exact Y.fieldAddr rfl rfl Try.underlying28 rfl Try.sizeOf21 (by decide)) ?_
                      refine Jp.store 3 rfl (want_all rfl) rfl rfl Try.sizeOf21 rfl rfl rfl rfl rfl rfl Kp.true ?_
                      refine Jp.over rfl hK12 ?_
                      refine Cd.imp (i := 3) rfl (fun h hh => (show Pt b3 (.cells D.cells.toArray 28) h from by first | (exfalso; omega) | ((try rw [hm] at hh); rw [hD]; (repeat first | rw [if_pos (by omega)] | rw [if_neg (by omega)]); (try unfold s32); exact hh))) ?_
                      exact Cd.meet (hj1 () trivial) ⟨rfl, rfl, trivial⟩ ⟨rfl, rfl, trivial⟩
              · skip
                try simp only [decide_eq_false_iff_not, decide_eq_true_eq, Int.not_lt, Int.not_le, Bool.not_eq_false, Bool.not_eq_true, Bool.not_true, Bool.not_false, Bool.not_eq_true', Bool.not_eq_false', beq_eq_false_iff_ne, ne_eq, beq_iff_eq, bne_iff_ne, bne_eq_false_iff_eq, Classical.not_not] at g67
                refine Jp.skip 68 rfl (want_as rfl rfl rfl rfl) rfl rfl Kp.true ?_
                refine Jp.skip 69 rfl (want_as rfl rfl rfl rfl) rfl rfl Kp.true ?_
                refine Jp.y 70 rfl (want_all rfl) rfl rfl Kp.true (Y.pickF rfl rfl rfl) ?_
                refine Jp.y 64 rfl (want_all rfl) rfl rfl Kp.true (Y.assign rfl rfl) ?_
                refine Jp.done hK26 ?_
                refine Cd.condF rfl ?_
                refine Cd.seq fun K30 hK30 => ?_
                refine Cd.plain [(0, false), (1, false), (2, false), (3, false), (4, false), (5, false), (6, false)] rfl rfl ?_
                refine Jp.y 79 rfl (want_all rfl) rfl rfl Kp.true (Y.move rfl rfl) ?_
                refine Jp.y 80 rfl (want_all rfl) rfl rfl Kp.true (Y.geq rfl rfl rfl) ?_
                refine Jp.y 81 rfl (want_all rfl) rfl rfl Kp.true (Y.move rfl rfl) ?_
                refine Jp.split 81 rfl (fun g81 => ?_) (fun g81 => ?_)
                · skip
                  try simp only [decide_eq_false_iff_not, decide_eq_true_eq, Int.not_lt, Int.not_le, Bool.not_eq_false, Bool.not_eq_true, Bool.not_true, Bool.not_false, Bool.not_eq_true', Bool.not_eq_false', beq_eq_false_iff_ne, ne_eq, beq_iff_eq, bne_iff_ne, bne_eq_false_iff_eq, Classical.not_not] at g81
                  refine Jp.y 82 rfl (want_as rfl rfl rfl rfl) rfl rfl Kp.true (Y.move rfl rfl) ?_
                  refine Jp.y 83 rfl (want_as rfl rfl rfl rfl) rfl rfl Kp.true (Y.leq rfl rfl rfl) ?_
                  refine Jp.y 84 rfl (want_all rfl) rfl rfl Kp.true (Y.pickT rfl rfl rfl) ?_
                  refine Jp.y 78 rfl (want_all rfl) rfl rfl Kp.true (Y.assign rfl rfl) ?_
                  refine Jp.done hK30 ?_
                  refine Cd.cond rfl (fun g78 => ?_) (fun g78 => ?_)
                  · skip
                    try simp only [decide_eq_false_iff_not, decide_eq_true_eq, Int.not_lt, Int.not_le, Bool.not_eq_false, Bool.not_eq_true, Bool.not_true, Bool.not_false, Bool.not_eq_true', Bool.not_eq_false', beq_eq_false_iff_ne, ne_eq, beq_iff_eq, bne_iff_ne, bne_eq_false_iff_eq, Classical.not_not] at g78
                    refine Cd.plain [(0, false), (1, false), (2, false), (3, false), (4, false), (5, false), (6, false), (7, false), (8, false), (9, false)] rfl rfl ?_
                    refine Jp.y 85 rfl (want_all rfl) rfl rfl Kp.true (Y.move rfl rfl) ?_
                    refine Jp.y 86 rfl (want_all rfl) rfl rfl Kp.true (Y.move rfl rfl) ?_
                    refine Jp.y 87 rfl (want_all rfl) rfl rfl Kp.true (Y.move rfl rfl) ?_
                    refine Jp.y 88 rfl (want_all rfl) rfl rfl Kp.true (Y.conv_ rfl rfl Try.underlying3 Try.underlying21 (by first | exact wrap_i32 (by omega) (by omega) | rfl)) ?_
                    refine Jp.y 89 rfl (want_all rfl) rfl rfl Kp.true (by first | exact Y.fieldAddrP rfl rfl Try.underlying28 rfl Try.sizeOf3 (by decide) (show _ + 1 = _ from rfl) | exact Y.fieldAddr rfl rfl Try.underlying28 rfl Try.sizeOf3 (by decide)) ?_
                    refine Jp.store 3 rfl (want_all rfl) rfl rfl Try.sizeOf3 rfl rfl rfl rfl rfl rfl Kp.true ?_
                    refine Jp.y 90 rfl (want_all rfl) rfl rfl Kp.true (by first | exact Y.fieldAddrP rfl rfl Try.underlying28 rfl Try.sizeOf3 (by decide) (show _ + 2 = _ from rfl) | exact Y.fieldAddr rfl rfl Try.underlying28 rfl Try.sizeOf3 (by decide)) ?_
                    refine Jp.store 3 rfl (want_all rfl) rfl rfl Try.sizeOf3 rfl rfl rfl rfl rfl rfl Kp.true ?_
                    refine Jp.y 91 rfl (want_all rfl) rfl rfl Kp.true (by first | exact Y.fieldAddrP rfl rfl Try.underlying28 rfl Try.sizeOf21 (by decide) (show _ + 4 = _ from rfl) | exact Y.fieldAddr rfl rfl Try.underlying28 rfl Try.sizeOf21 (by decide)) ?_
                    refine Jp.store 3 rfl (want_all rfl) rfl rfl Try.sizeOf21 rfl rfl rfl rfl rfl rfl Kp.true ?_
                    refine Jp.over rfl hK12 ?_
                    refine Cd.imp (i := 3) rfl (fun h hh => (show Pt b3 (.cells D.cells.toArray 28) h from by first | (exfalso; omega) | ((try rw [hm] at hh); rw [hD]; (repeat first | rw [if_pos (by omega)] | rw [if_neg (by omega)]); (try unfold s32); exact hh))) ?_
                    exact Cd.meet (hj1 () trivial) ⟨rfl, rfl, trivial⟩ ⟨rfl, rfl, trivial⟩
                  · skip
                    try simp only [decide_eq_false_iff_not, decide_eq_true_eq, Int.not_lt, Int.not_le, Bool.not_eq_false, Bool.not_eq_true, Bool.not_true, Bool.not_false, Bool.not_eq_true', Bool.not_eq_false', beq_eq_false_iff_ne, ne_eq, beq_iff_eq, bne_iff_ne, bne_eq_false_iff_eq, Classical.not_not] at g78
                    refine Cd.seq fun K31 hK31 => ?_
                    refine Cd.plain [(0, false), (1, false), (2, false)] rfl rfl ?_
                    refine Jp.y 93 rfl (want_all rfl) rfl rfl Kp.true (Y.move rfl rfl) ?_
                    refine Jp.y 94 rfl (want_all rfl) rfl rfl Kp.true (Y.geq rfl rfl rfl) ?_
                    refine Jp.y 92 rfl (want_all rfl) rfl rfl Kp.true (Y.assign rfl rfl) ?_
                    refine Jp.done hK31 ?_
                    refine Cd.cond rfl (fun g92 => ?_) (fun g92 => ?_)
                    · skip
                      try simp only [decide_eq_false_iff_not, decide_eq_true_eq, Int.not_lt, Int.not_le, Bool.not_eq_false, Bool.not_eq_true, Bool.not_true, Bool.not_false, Bool.not_eq_true', Bool.not_eq_false', beq_eq_false_iff_ne, ne_eq, beq_iff_eq, bne_iff_ne, bne_eq_false_iff_eq, Classical.not_not] at g92
                      refine Cd.plain [(0, false), (1, false), (2, false), (3, false), (4, false), (5, false), (6, false), (7, false), (8, false)] rfl rfl ?_
                      refine Jp.y 95 rfl (want_all rfl) rfl rfl Kp.true (Y.move rfl rfl) ?_
                      refine Jp.y 96 rfl (want_all rfl) rfl rfl Kp.true (Y.move rfl rfl) ?_
                      refine Jp.y 97 rfl (want_all rfl) rfl rfl Kp.true (Y.move rfl rfl) ?_
                      refine Jp.y 98 rfl (want_all rfl) rfl rfl Kp.true (by first | exact Y.fieldAddrP rfl rfl Try.underlying28 rfl Try.sizeOf3 (by decide) (show _ + 1 = _ from rfl) | exact Y.fieldAddr rfl rfl Try.underlying28 rfl Try.sizeOf3 (by decide)) ?_
                      refine Jp.store 3 rfl (want_all rfl) rfl rfl Try.sizeOf3 rfl rfl rfl rfl rfl rfl Kp.true ?_
                      refine Jp.y 99 rfl (want_all rfl) rfl rfl Kp.true (by first | exact Y.fieldAddrP rfl rfl Try.underlying28 rfl Try.sizeOf3 (by decide) (show _ + 2 = _ from rfl) | exact Y.fieldAddr rfl rfl Try.underlying28 rfl Try.sizeOf3 (by decide)) ?_
                      refine Jp.store 3 rfl (want_all rfl) rfl rfl Try.sizeOf3 rfl rfl rfl rfl rfl rfl Kp.true ?_
                      refine Jp.y 100 rfl (want_all rfl) rfl rfl Kp.true (by first | exact Y.fieldAddrP rfl rfl Try.underlying28 rfl Try.sizeOf3 (by decide) (show _ + 3 = _ from rfl) | exact Y.fieldAddr rfl rfl Try.underlying28 rfl Try.sizeOf3 (by decide)) ?_
                      refine Jp.store 3 rfl (want_all rfl) rfl rfl Try.sizeOf3 rfl rfl rfl rfl rfl rfl Kp.true ?_
                      refine Jp.over rfl hK12 ?_
                      refine Cd.imp (i := 3) rfl (fun h hh => (show Pt b3 (.cells D.cells.toArray 28) h from by first | (exfalso; omega) | ((try rw [hm] at hh); rw [hD]; (repeat first | rw [if_pos (by omega)] | rw [if_neg (by omega)]); (try unfold s32); exact hh))) ?_
                      exact Cd.meet (hj1 () trivial) ⟨rfl, rfl, trivial⟩ ⟨rfl, rfl, trivial⟩
                    · skip
                      try simp only [decide_eq_false_iff_not, decide_eq_true_eq, Int.not_lt, Int.not_le, Bool.not_eq_false, Bool.not_eq_true, Bool.not_true, Bool.not_false, Bool.not_eq_true', Bool.not_eq_false', beq_eq_false_iff_ne, ne_eq, beq_iff_eq, bne_iff_ne, bne_eq_false_iff_eq, Classical.not_not] at g92
                      refine Cd.plain [(0, false), (1, false), (2, false), (3, false), (4, false), (5, false), (6, false), (7, false), (8, false), (9, false)] rfl rfl ?_
                      refine Jp.y 19 rfl (want_all rfl) rfl rfl Kp.true (Y.move rfl rfl) ?_
                      refine Jp.y 20 rfl (want_all rfl) rfl rfl Kp.true (Y.move rfl rfl) ?_
                      refine Jp.y 21 rfl (want_all rfl) rfl rfl Kp.true (Y.move rfl rfl) ?_
                      refine Jp.call [] [] (immI_spec w hw) 22 rfl (want_all rfl) rfl rfl (Runs.fn rfl Try.call88 rfl) (by decide) (by decide) rfl trivial ?_
                      rintro v111 ρ111 L111 ⟨rfl, rfl, rfl⟩
                      refine ⟨rfl, fun hle111 => ⟨Kp.true, ?_⟩⟩
                      refine Jp.y 23 rfl (want_all rfl) rfl rfl Kp.true (by first | exact Y.fieldAddrP rfl rfl Try.underlying28 rfl Try.sizeOf3 (by decide) (show _ + 1 = _ from rfl) | exact Y.fieldAddr rfl rfl Try.underlying28 rfl Try.sizeOf3 (by decide)) ?_
                      refine Jp.store 3 rfl (want_all rfl) rfl rfl Try.sizeOf3 rfl rfl rfl rfl rfl rfl Kp.true ?_
                      refine Jp.y 24 rfl (want_all rfl) rfl rfl Kp.true (by first | exact Y.fieldAddrP rfl rfl Try.underlying28 rfl Try.sizeOf3 (by decide) (show _ + 2 = _ from rfl) | exact Y.fieldAddr rfl rfl Try.underlying28 rfl Try.sizeOf3 (by decide)) ?_
                      refine Jp.store 3 rfl (want_all rfl) rfl rfl Try.sizeOf3 rfl rfl rfl rfl rfl rfl Kp.true ?_
                      refine Jp.y 25 rfl (want_all rfl) rfl rfl Kp.true (by first | exact Y.fieldAddrP rfl rfl Try.underlying28 rfl Try.sizeOf21 (by decide) (show _ + 4 = _ from rfl) | exact Y.fieldAddr rfl rfl Try.underlying28 rfl Try.sizeOf21 (by decide)) ?_
                      refine Jp.store 3 rfl (want_all rfl) rfl rfl Try.sizeOf21 rfl rfl rfl rfl rfl rfl Kp.true ?_
                      refine Jp.over rfl hK12 ?_
                      refine Cd.imp (i := 3) rfl (fun h hh => (show Pt b3 (.cells D.cells.toArray 28) h from by first | (exfalso; omega) | ((try rw [hm] at hh); rw [hD]; (repeat first | rw [if_pos (by omega)] | rw [if_neg (by omega)]); (try unfold s32); exact hh))) ?_
                      exact Cd.meet (hj1 () trivial) ⟨rfl, rfl, trivial⟩ ⟨rfl, rfl, trivial⟩
                · skip
                  try simp only [decide_eq_false_iff_not, decide_eq_true_eq, Int.not_lt, Int.not_le, Bool.not_eq_false, Bool.not_eq_true, Bool.not_true, Bool.not_false, Bool.not_eq_true', Bool.not_eq_false', beq_eq_false_iff_ne, ne_eq, beq_iff_eq, bne_iff_ne, bne_eq_false_iff_eq, Classical.not_not] at g81
                  refine Jp.skip 82 rfl (want_as rfl rfl rfl rfl) rfl rfl Kp.true ?_
                  refine Jp.skip 83 rfl (want_as rfl rfl rfl rfl) rfl rfl Kp.true ?_
                  refine Jp.y 84 rfl (want_all rfl) rfl rfl Kp.true (Y.pickF rfl rfl rfl) ?_
                  refine Jp.y 78 rfl (want_all rfl) rfl rfl Kp.true (Y.assign rfl rfl) ?_
                  refine Jp.done hK30 ?_
                  refine Cd.condF rfl ?_
                  refine Cd.seq fun K32 hK32 => ?_
                  refine Cd.plain [(0, false), (1, false), (2, false)] rfl rfl ?_
                  refine Jp.y 93 rfl (want_all rfl) rfl rfl Kp.true (Y.move rfl rfl) ?_
                  refine Jp.y 94 rfl (want_all rfl) rfl rfl Kp.true (Y.geq rfl rfl rfl) ?_
                  refine Jp.y 92 rfl (want_all rfl) rfl rfl Kp.true (Y.assign rfl rfl) ?_
                  refine Jp.done hK32 ?_
                  refine Cd.cond rfl (fun g92 => ?_) (fun g92 => ?_)
                  · skip
                    try simp only [decide_eq_false_iff_not, decide_eq_true_eq, Int.not_lt, Int.not_le, Bool.not_eq_false, Bool.not_eq_true, Bool.not_true, Bool.not_false, Bool.not_eq_true', Bool.not_eq_false', beq_eq_false_iff_ne, ne_eq, beq_iff_eq, bne_iff_ne, bne_eq_false_iff_eq, Classical.not_not] at g92
                    refine Cd.plain [(0, false), (1, false), (2, false), (3, false), (4, false), (5, false), (6, false), (7, false), (8, false)] rfl rfl ?_
                    refine Jp.y 95 rfl (want_all rfl) rfl rfl Kp.true (Y.move rfl rfl) ?_
                    refine Jp.y 96 rfl (want_all rfl) rfl rfl Kp.true (Y.move rfl rfl) ?_
                    refine Jp.y 97 rfl (want_all rfl) rfl rfl Kp.true (Y.move rfl rfl) ?_
                    refine Jp.y 98 rfl (want_all rfl) rfl rfl Kp.true (by first | exact Y.fieldAddrP rfl rfl Try.underlying28 rfl Try.sizeOf3 (by decide) (show _ + 1 = _ from rfl) | exact Y.fieldAddr rfl rfl Try.underlying28 rfl Try.sizeOf3 (by decide)) ?_
                    refine Jp.store 3 rfl (want_all rfl) rfl rfl Try.sizeOf3 rfl rfl rfl rfl rfl rfl Kp.true ?_
                    refine Jp.y 99 rfl (want_all rfl) rfl rfl Kp.true (by first | exact Y.fieldAddrP rfl rfl Try.underlying28 rfl Try.sizeOf3 (by decide) (show _ + 2 = _ from rfl) | exact Y.fieldAddr rfl rfl Try.underlying28 rfl Try.sizeOf3 (by decide)) ?_
                    refine Jp.store 3 rfl (want_all rfl) rfl rfl Try.sizeOf3 rfl rfl rfl rfl rfl rfl Kp.true ?_
                    refine Jp.y 100 rfl (want_all rfl) rfl rfl Kp.true (by first | exact Y.fieldAddrP rfl rfl Try.underlying28 rfl Try.sizeOf3 (by decide) (show _ + 3 = _ from rfl) | exact Y.fieldAddr rfl rfl Try.underlying28 rfl Try.sizeOf3 (by decide)) ?_
                    refine Jp.store 3 rfl (want_all rfl) rfl rfl Try.sizeOf3 rfl rfl rfl rfl rfl rfl Kp.true ?_
                    refine Jp.over rfl hK12 ?_
                    refine Cd.imp (i := 3) rfl (fun h hh => (show Pt b3 (.cells D.cells.toArray 28) h from by first | (exfalso; omega) | ((try rw [hm] at hh); rw [hD]; (repeat first | rw [if_pos (by omega)] | rw [if_neg (by omega)]); (try unfold s32); exact hh))) ?_
                    exact Cd.meet (hj1 () trivial) ⟨rfl, rfl, trivial⟩ ⟨rfl, rfl, trivial⟩
                  · skip
                    try simp only [decide_eq_false_iff_not, decide_eq_true_eq, Int.not_lt, Int.not_le, Bool.not_eq_false, Bool.not_eq_true, Bool.not_true, Bool.not_false, Bool.not_eq_true', Bool.not_eq_false', beq_eq_false_iff_ne, ne_eq, beq_iff_eq, bne_iff_ne, bne_eq_false_iff_eq, Classical.not_not] at g92
                    refine Cd.plain [(0, false), (1, false), (2, false), (3, false), (4, false), (5, false), (6, false), (7, false), (8, false), (9, false)] rfl rfl ?_
                    refine Jp.y 19 rfl (want_all rfl) rfl rfl Kp.true (Y.move rfl rfl) ?_
                    refine Jp.y 20 rfl (want_all rfl) rfl rfl Kp.true (Y.move rfl rfl) ?_
                    refine Jp.y 21 rfl (want_all rfl) rfl rfl Kp.true (Y.move rfl rfl) ?_
                    refine Jp.call [] [] (immI_spec w hw) 22 rfl (want_all rfl) rfl rfl (Runs.fn rfl Try.call88 rfl) (by decide) (by decide) rfl trivial ?_
                    rintro v112 ρ112 L112 ⟨rfl, rfl, rfl⟩
                    refine ⟨rfl, fun hle112 => ⟨Kp.true, ?_⟩⟩
                    refine Jp.y 23 rfl (want_all rfl) rfl rfl Kp.true (by first | exact Y.fieldAddrP rfl rfl Try.underlying28 rfl Try.sizeOf3 (by decide) (show _ + 1 = _ from rfl) | exact Y.fieldAddr rfl rfl Try.underlying28 rfl Try.sizeOf3 (by decide)) ?_
                    refine Jp.store 3 rfl (want_all rfl) rfl rfl Try.sizeOf3 rfl rfl rfl rfl rfl rfl Kp.true ?_
                    refine Jp.y 24 rfl (want_all rfl) rfl rfl Kp.true (by first | exact Y.fieldAddrP rfl rfl Try.underlying28 rfl Try.sizeOf3 (by decide) (show _ + 2 = _ from rfl) | exact Y.fieldAddr rfl rfl Try.underlying28 rfl Try.sizeOf3 (by decide)) ?_
                    refine Jp.store 3 rfl (want_all rfl) rfl rfl Try.sizeOf3 rfl rfl rfl rfl rfl rfl Kp.true ?_
                    refine Jp.y 25 rfl (want_all rfl) rfl rfl Kp.true (by first | exact Y.fieldAddrP rfl rfl Try.underlying28 rfl Try.sizeOf21 (by decide) (show _ + 4 = _ from rfl) | exact Y.fieldAddr rfl rfl Try.underlying28 rfl Try.sizeOf21 (by decide)) ?_
                    refine Jp.store 3 rfl (want_all rfl) rfl rfl Try.sizeOf21 rfl rfl rfl rfl rfl rfl Kp.true ?_
                    refine Jp.over rfl hK12 ?_
                    refine Cd.imp (i := 3) rfl (fun h hh => (show Pt b3 (.cells D.cells.toArray 28) h from by first | (exfalso; omega) | ((try rw [hm] at hh); rw [hD]; (repeat first | rw [if_pos (by omega)] | rw [if_neg (by omega)]); (try unfold s32); exact hh))) ?_
                    exact Cd.meet (hj1 () trivial) ⟨rfl, rfl, trivial⟩ ⟨rfl, rfl, trivial⟩
end
end Go.Proofs.Ytkjeidoplonkjaa
