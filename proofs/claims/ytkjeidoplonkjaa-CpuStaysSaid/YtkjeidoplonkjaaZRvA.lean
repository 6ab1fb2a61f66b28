import Derived.Test.YtkjeidoplonkjaaZComX
import Derived.Test.YtkjeidoplonkjaaZEngY
set_option linter.unusedVariables false
set_option linter.unusedSimpArgs false
set_option maxRecDepth 100000
namespace Go.Proofs.Ytkjeidoplonkjaa
open Go
theorem field_spec (w f m : Nat) (hw : w < 4294967296) (hf : f ≤ 31) (hm : m ≤ 31) : Spec Try.prog 84 #[.int .u32 w, .int .i64 f, .int .i64 m] (fun _ => True) [] (fun ρ ρ' v L => ρ' = ρ ∧ v = .int .i64 ((w / 2 ^ f % 2 ^ m : Nat) : Int) ∧ L = []) := by
  refine Spec.of 15 Try.func84 rfl Try.ntmps84 [(0, _), (1, _), (2, _)] rfl rfl ?_
  intro cx ρ hr h0
  have h1 : 2 ^ m ≤ 2 ^ 31 := Nat.pow_le_pow_right (by omega) hm
  have h2 : 1 ≤ 2 ^ m := Nat.one_le_two_pow
  have h3 : w / 2 ^ f ≤ w := Nat.div_le_self ..
  have h4 : w / 2 ^ f % 2 ^ m < 2 ^ m := Nat.mod_lt _ (by omega)
  have hs : IntKind.u32.wrap (((1 : Nat) : Int) * 2 ^ (min (m : Int).toNat IntKind.u32.bits)) = ((1 * 2 ^ m : Nat) : Int) := shl32 (by omega) (by omega)
  refine Cd.seq fun K1 hK1 => ?_
  refine Cd.plain [(0, false)] rfl rfl ?_
  refine Jp.y 6 rfl (want_all rfl) rfl rfl Kp.true (Y.assign rfl rfl) ?_
  refine Jp.done hK1 ?_
  refine Cd.seq fun K2 hK2 => ?_
  refine Cd.drawn [] trivial [(0, true), (1, true), (2, true), (3, true), (4, true), (5, true), (6, true), (7, true), (8, true)] follows (by kernel_rfl) (fun hrl => ?_)
  refine Jp.q 7 rfl (want_all rfl) rfl rfl (Y.move rfl rfl) ?_
  refine Jp.q 8 rfl (want_all rfl) rfl rfl (Y.move rfl rfl) ?_
  refine Jp.q 9 rfl (want_all rfl) rfl rfl (Y.shr rfl rfl rfl (by first | decide | omega)) ?_
  refine Jp.q 10 rfl (want_all rfl) rfl rfl (Y.move rfl rfl) ?_
  refine Jp.q 11 rfl (want_all rfl) rfl rfl (Y.shl rfl rfl rfl (by first | decide | omega)) ?_
  refine Jp.slot 9 rfl (show _ = Value.int .u32 ((w / 2 ^ f : Nat) : Int) from congrArg (Value.int .u32) (shr32 w f (by omega))) ?_
  refine Jp.slot 11 rfl (show _ = Value.int .u32 ((2 ^ m : Nat) : Int) from congrArg (Value.int .u32) (by rw [Nat.one_mul] at hs; exact hs)) ?_
  refine Jp.q 12 rfl (want_all rfl) rfl rfl (Y.sub_ rfl rfl rfl (by first | exact wrap_u32 (by omega) (by omega) | rfl)) ?_
  refine Jp.slot 12 rfl (show _ = Value.int .u32 ((2 ^ m - 1 : Nat) : Int) from congrArg (Value.int .u32) (by omega)) ?_
  refine Jp.q 13 rfl (want_all rfl) rfl rfl (Y.bits rfl rfl rfl rfl) ?_
  refine Jp.slot 13 rfl (show _ = Value.int .u32 ((w / 2 ^ f % 2 ^ m : Nat) : Int) from congrArg (Value.int .u32) (by rw [bits_and32 (by omega) (by omega), Nat.and_two_pow_sub_one_eq_mod])) ?_
  refine Jp.q 14 rfl (want_all rfl) rfl rfl (Y.conv_ rfl rfl Try.underlying25 Try.underlying3 (by first | exact wrap_i64 (by omega) (by omega) | rfl)) ?_
  refine Jp.q 6 rfl (want_all rfl) rfl rfl (Y.assign rfl rfl) ?_
  refine Jp.done hK2 ?_
  refine Cd.ret [] rfl (res1 rfl rfl) trivial ⟨rfl, rfl, rfl⟩
def branchP (f : Nat) : Nat := [5, 6, 0, 0, 7, 8, 9, 10].getD f 0
def loadP (f : Nat) : Nat := [11, 12, 13, 0, 14, 15, 0, 0].getD f 0
def storeP (f : Nat) : Nat := [16, 17, 18, 0, 0, 0, 0, 0].getD f 0
def immKP (f top : Nat) : Nat := if f = 1 ∧ top = 0 then 25 else if f = 5 ∧ top = 0 then 26 else if f = 5 ∧ top = 32 then 27 else [19, 0, 20, 21, 22, 0, 23, 24].getD f 0
def regKP (f top : Nat) : Nat := if top = 0 then [28, 30, 31, 32, 33, 34, 36, 37].getD f 0 else if top = 1 then 38 + f else if top = 32 ∧ f = 0 then 29 else if top = 32 ∧ f = 5 then 35 else 0
def systemP (w : Nat) : Nat := if w = 115 then 48 else if w = 1048691 then 49 else 0
theorem branchK_spec (f : Nat) (hf : f < 8) : Spec Try.prog 110 #[.int .i64 f] (fun _ => True) [] (fun ρ ρ' v L => ρ' = ρ ∧ v = .int .i64 ((branchP f : Nat) : Int) ∧ L = []) := by
  refine Spec.of 6 Try.func110 rfl Try.ntmps110 [(0, _)] rfl rfl ?_
  intro cx ρ hr h0
  have hidx : (#[Value.int .i64 5, Value.int .i64 6, Value.int .i64 0, Value.int .i64 0, Value.int .i64 7, Value.int .i64 8, Value.int .i64 9, Value.int .i64 10] : Array Value)[(f : Int).toNat * 1]? = some (.int .i64 ((branchP f : Nat) : Int)) := by
    rcases (show f = 0 ∨ f = 1 ∨ f = 2 ∨ f = 3 ∨ f = 4 ∨ f = 5 ∨ f = 6 ∨ f = 7 by omega) with rfl | rfl | rfl | rfl | rfl | rfl | rfl | rfl <;> rfl
  refine Cd.seq fun K4 hK4 => ?_
  refine Cd.plain [(0, false)] rfl rfl ?_
  refine Jp.y 2 rfl (want_all rfl) rfl rfl Kp.true (Y.assign rfl rfl) ?_
  refine Jp.done hK4 ?_
  refine Cd.seq fun K5 hK5 => ?_
  refine Cd.plain [(0, false), (1, false), (2, false), (3, false)] rfl rfl ?_
  refine Jp.y 3 rfl (want_all rfl) rfl rfl Kp.true (Y.array [(0, _), (1, _), (2, _), (3, _), (4, _), (5, _), (6, _), (7, _)] [_, _, _, _, _, _, _, _] rfl rfl Try.underlying236 Try.sizeOf3 Try.zeroValue236 rfl) ?_
  refine Jp.y 4 rfl (want_all rfl) rfl rfl Kp.true (Y.move rfl rfl) ?_
  refine Jp.y 5 rfl (want_all rfl) rfl rfl Kp.true (Y.indexV (v := .int .i64 ((branchP f : Nat) : Int)) rfl Try.underlying236 Try.sizeOf3 Try.isAgg3 rfl rfl (by omega) (by omega) hidx) ?_
  refine Jp.y 2 rfl (want_all rfl) rfl rfl Kp.true (Y.assign rfl rfl) ?_
  refine Jp.done hK5 ?_
  refine Cd.ret [] rfl (res1 rfl rfl) trivial ⟨rfl, rfl, rfl⟩
theorem loadK_spec (f : Nat) (hf : f < 8) : Spec Try.prog 111 #[.int .i64 f] (fun _ => True) [] (fun ρ ρ' v L => ρ' = ρ ∧ v = .int .i64 ((loadP f : Nat) : Int) ∧ L = []) := by
  refine Spec.of 6 Try.func111 rfl Try.ntmps111 [(0, _)] rfl rfl ?_
  intro cx ρ hr h0
  have hidx : (#[Value.int .i64 11, Value.int .i64 12, Value.int .i64 13, Value.int .i64 0, Value.int .i64 14, Value.int .i64 15, Value.int .i64 0, Value.int .i64 0] : Array Value)[(f : Int).toNat * 1]? = some (.int .i64 ((loadP f : Nat) : Int)) := by
    rcases (show f = 0 ∨ f = 1 ∨ f = 2 ∨ f = 3 ∨ f = 4 ∨ f = 5 ∨ f = 6 ∨ f = 7 by omega) with rfl | rfl | rfl | rfl | rfl | rfl | rfl | rfl <;> rfl
  refine Cd.seq fun K6 hK6 => ?_
  refine Cd.plain [(0, false)] rfl rfl ?_
  refine Jp.y 2 rfl (want_all rfl) rfl rfl Kp.true (Y.assign rfl rfl) ?_
  refine Jp.done hK6 ?_
  refine Cd.seq fun K7 hK7 => ?_
  refine Cd.plain [(0, false), (1, false), (2, false), (3, false)] rfl rfl ?_
  refine Jp.y 3 rfl (want_all rfl) rfl rfl Kp.true (Y.array [(0, _), (1, _), (2, _), (3, _), (4, _), (5, _), (6, _), (7, _)] [_, _, _, _, _, _, _, _] rfl rfl Try.underlying236 Try.sizeOf3 Try.zeroValue236 rfl) ?_
  refine Jp.y 4 rfl (want_all rfl) rfl rfl Kp.true (Y.move rfl rfl) ?_
  refine Jp.y 5 rfl (want_all rfl) rfl rfl Kp.true (Y.indexV (v := .int .i64 ((loadP f : Nat) : Int)) rfl Try.underlying236 Try.sizeOf3 Try.isAgg3 rfl rfl (by omega) (by omega) hidx) ?_
  refine Jp.y 2 rfl (want_all rfl) rfl rfl Kp.true (Y.assign rfl rfl) ?_
  refine Jp.done hK7 ?_
  refine Cd.ret [] rfl (res1 rfl rfl) trivial ⟨rfl, rfl, rfl⟩
theorem storeK_spec (f : Nat) (hf : f < 8) : Spec Try.prog 112 #[.int .i64 f] (fun _ => True) [] (fun ρ ρ' v L => ρ' = ρ ∧ v = .int .i64 ((storeP f : Nat) : Int) ∧ L = []) := by
  refine Spec.of 6 Try.func112 rfl Try.ntmps112 [(0, _)] rfl rfl ?_
  intro cx ρ hr h0
  have hidx : (#[Value.int .i64 16, Value.int .i64 17, Value.int .i64 18, Value.int .i64 0, Value.int .i64 0, Value.int .i64 0, Value.int .i64 0, Value.int .i64 0] : Array Value)[(f : Int).toNat * 1]? = some (.int .i64 ((storeP f : Nat) : Int)) := by
    rcases (show f = 0 ∨ f = 1 ∨ f = 2 ∨ f = 3 ∨ f = 4 ∨ f = 5 ∨ f = 6 ∨ f = 7 by omega) with rfl | rfl | rfl | rfl | rfl | rfl | rfl | rfl <;> rfl
  refine Cd.seq fun K8 hK8 => ?_
  refine Cd.plain [(0, false)] rfl rfl ?_
  refine Jp.y 2 rfl (want_all rfl) rfl rfl Kp.true (Y.assign rfl rfl) ?_
  refine Jp.done hK8 ?_
  refine Cd.seq fun K9 hK9 => ?_
  refine Cd.plain [(0, false), (1, false), (2, false), (3, false)] rfl rfl ?_
  refine Jp.y 3 rfl (want_all rfl) rfl rfl Kp.true (Y.array [(0, _), (1, _), (2, _)] [_, _, _, _, _, _, _, _] rfl rfl Try.underlying236 Try.sizeOf3 Try.zeroValue236 rfl) ?_
  refine Jp.y 4 rfl (want_all rfl) rfl rfl Kp.true (Y.move rfl rfl) ?_
  refine Jp.y 5 rfl (want_all rfl) rfl rfl Kp.true (Y.indexV (v := .int .i64 ((storeP f : Nat) : Int)) rfl Try.underlying236 Try.sizeOf3 Try.isAgg3 rfl rfl (by omega) (by omega) hidx) ?_
  refine Jp.y 2 rfl (want_all rfl) rfl rfl Kp.true (Y.assign rfl rfl) ?_
  refine Jp.done hK9 ?_
  refine Cd.ret [] rfl (res1 rfl rfl) trivial ⟨rfl, rfl, rfl⟩
theorem immK_spec (f top : Nat) (hf : f < 8) : Spec Try.prog 113 #[.int .i64 f, .int .i64 top] (fun _ => True) [] (fun ρ ρ' v L => ρ' = ρ ∧ v = .int .i64 ((immKP f top : Nat) : Int) ∧ L = []) := by
  refine Spec.of 29 Try.func113 rfl Try.ntmps113 [(0, _), (1, _)] rfl rfl ?_
  intro cx ρ hr h0
  have hidx : (#[Value.int .i64 19, Value.int .i64 0, Value.int .i64 20, Value.int .i64 21, Value.int .i64 22, Value.int .i64 0, Value.int .i64 23, Value.int .i64 24] : Array Value)[(f : Int).toNat * 1]? = some (.int .i64 (([19, 0, 20, 21, 22, 0, 23, 24].getD f 0 : Nat) : Int)) := by
    rcases (show f = 0 ∨ f = 1 ∨ f = 2 ∨ f = 3 ∨ f = 4 ∨ f = 5 ∨ f = 6 ∨ f = 7 by omega) with rfl | rfl | rfl | rfl | rfl | rfl | rfl | rfl <;> rfl
  refine Cd.seq fun K10 hK10 => ?_
  refine Cd.plain [(0, false)] rfl rfl ?_
  refine Jp.y 4 rfl (want_all rfl) rfl rfl Kp.true (Y.assign rfl rfl) ?_
  refine Jp.done hK10 ?_
  refine Cd.seq fun K11 hK11 => ?_
  refine Cd.block ?_
  refine Cd.seq fun K12 hK12 => ?_
  refine Cd.plain [(0, false), (1, false), (2, false), (3, false), (4, false), (5, false), (6, false)] rfl rfl ?_
  refine Jp.y 6 rfl (want_all rfl) rfl rfl Kp.true (Y.move rfl rfl) ?_
  refine Jp.y 7 rfl (want_all rfl) rfl rfl Kp.true (Y.eql rfl rfl rfl) ?_
  refine Jp.y 8 rfl (want_all rfl) rfl rfl Kp.true (Y.move rfl rfl) ?_
  refine Jp.split 8 rfl (fun g8 => ?_) (fun g8 => ?_)
  · skip
    try simp only [decide_eq_false_iff_not, decide_eq_true_eq, Int.not_lt, Int.not_le, Bool.not_eq_false, Bool.not_eq_true, Bool.not_true, Bool.not_false, Bool.not_eq_true', Bool.not_eq_false', beq_eq_false_iff_ne, ne_eq, beq_iff_eq, bne_iff_ne, bne_eq_false_iff_eq, Classical.not_not] at g8
    refine Jp.y 9 rfl (want_as rfl rfl rfl rfl) rfl rfl Kp.true (Y.move rfl rfl) ?_
    refine Jp.y 10 rfl (want_as rfl rfl rfl rfl) rfl rfl Kp.true (Y.eql rfl rfl rfl) ?_
    refine Jp.y 11 rfl (want_all rfl) rfl rfl Kp.true (Y.pickT rfl rfl rfl) ?_
    refine Jp.y 5 rfl (want_all rfl) rfl rfl Kp.true (Y.assign rfl rfl) ?_
    refine Jp.done hK12 ?_
    refine Cd.cond rfl (fun g5 => ?_) (fun g5 => ?_)
    · skip
      try simp only [decide_eq_false_iff_not, decide_eq_true_eq, Int.not_lt, Int.not_le, Bool.not_eq_false, Bool.not_eq_true, Bool.not_true, Bool.not_false, Bool.not_eq_true', Bool.not_eq_false', beq_eq_false_iff_ne, ne_eq, beq_iff_eq, bne_iff_ne, bne_eq_false_iff_eq, Classical.not_not] at g5
      refine Cd.seq fun K13 hK13 => ?_
      refine Cd.plain [(0, false)] rfl rfl ?_
      refine Jp.y 4 rfl (want_all rfl) rfl rfl Kp.true (Y.assign rfl rfl) ?_
      refine Jp.done hK13 ?_
      refine Cd.ret [] rfl (res1 rfl rfl) trivial ⟨rfl, congrArg (Value.int .i64) (by first | (exfalso; omega) | (unfold immKP; repeat first | rfl | rw [if_pos (by omega)] | rw [if_neg (by omega)])), rfl⟩
    · skip
      try simp only [decide_eq_false_iff_not, decide_eq_true_eq, Int.not_lt, Int.not_le, Bool.not_eq_false, Bool.not_eq_true, Bool.not_true, Bool.not_false, Bool.not_eq_true', Bool.not_eq_false', beq_eq_false_iff_ne, ne_eq, beq_iff_eq, bne_iff_ne, bne_eq_false_iff_eq, Classical.not_not] at g5
      refine Cd.seq fun K14 hK14 => ?_
      refine Cd.plain [(0, false), (1, false), (2, false), (3, false), (4, false), (5, false), (6, false)] rfl rfl ?_
      refine Jp.y 13 rfl (want_all rfl) rfl rfl Kp.true (Y.move rfl rfl) ?_
      refine Jp.y 14 rfl (want_all rfl) rfl rfl Kp.true (Y.eql rfl rfl rfl) ?_
      refine Jp.y 15 rfl (want_all rfl) rfl rfl Kp.true (Y.move rfl rfl) ?_
      refine Jp.split 15 rfl (fun g15 => ?_) (fun g15 => ?_)
      · skip
        try simp only [decide_eq_false_iff_not, decide_eq_true_eq, Int.not_lt, Int.not_le, Bool.not_eq_false, Bool.not_eq_true, Bool.not_true, Bool.not_false, Bool.not_eq_true', Bool.not_eq_false', beq_eq_false_iff_ne, ne_eq, beq_iff_eq, bne_iff_ne, bne_eq_false_iff_eq, Classical.not_not] at g15
        refine Jp.y 16 rfl (want_as rfl rfl rfl rfl) rfl rfl Kp.true (Y.move rfl rfl) ?_
        refine Jp.y 17 rfl (want_as rfl rfl rfl rfl) rfl rfl Kp.true (Y.eql rfl rfl rfl) ?_
        refine Jp.y 18 rfl (want_all rfl) rfl rfl Kp.true (Y.pickT rfl rfl rfl) ?_
        refine Jp.y 12 rfl (want_all rfl) rfl rfl Kp.true (Y.assign rfl rfl) ?_
        refine Jp.done hK14 ?_
        refine Cd.cond rfl (fun g12 => ?_) (fun g12 => ?_)
        · skip
          try simp only [decide_eq_false_iff_not, decide_eq_true_eq, Int.not_lt, Int.not_le, Bool.not_eq_false, Bool.not_eq_true, Bool.not_true, Bool.not_false, Bool.not_eq_true', Bool.not_eq_false', beq_eq_false_iff_ne, ne_eq, beq_iff_eq, bne_iff_ne, bne_eq_false_iff_eq, Classical.not_not] at g12
          refine Cd.seq fun K15 hK15 => ?_
          refine Cd.plain [(0, false)] rfl rfl ?_
          refine Jp.y 4 rfl (want_all rfl) rfl rfl Kp.true (Y.assign rfl rfl) ?_
          refine Jp.done hK15 ?_
          refine Cd.ret [] rfl (res1 rfl rfl) trivial ⟨rfl, congrArg (Value.int .i64) (by first | (exfalso; omega) | (unfold immKP; repeat first | rfl | rw [if_pos (by omega)] | rw [if_neg (by omega)])), rfl⟩
        · skip
          try simp only [decide_eq_false_iff_not, decide_eq_true_eq, Int.not_lt, Int.not_le, Bool.not_eq_false, Bool.not_eq_true, Bool.not_true, Bool.not_false, Bool.not_eq_true', Bool.not_eq_false', beq_eq_false_iff_ne, ne_eq, beq_iff_eq, bne_iff_ne, bne_eq_false_iff_eq, Classical.not_not] at g12
          refine Cd.seq fun K16 hK16 => ?_
          refine Cd.plain [(0, false), (1, false), (2, false), (3, false), (4, false), (5, false), (6, false)] rfl rfl ?_
          refine Jp.y 20 rfl (want_all rfl) rfl rfl Kp.true (Y.move rfl rfl) ?_
          refine Jp.y 21 rfl (want_all rfl) rfl rfl Kp.true (Y.eql rfl rfl rfl) ?_
          refine Jp.y 22 rfl (want_all rfl) rfl rfl Kp.true (Y.move rfl rfl) ?_
          refine Jp.split 22 rfl (fun g22 => ?_) (fun g22 => ?_)
          · skip
            try simp only [decide_eq_false_iff_not, decide_eq_true_eq, Int.not_lt, Int.not_le, Bool.not_eq_false, Bool.not_eq_true, Bool.not_true, Bool.not_false, Bool.not_eq_true', Bool.not_eq_false', beq_eq_false_iff_ne, ne_eq, beq_iff_eq, bne_iff_ne, bne_eq_false_iff_eq, Classical.not_not] at g22
            refine Jp.y 23 rfl (want_as rfl rfl rfl rfl) rfl rfl Kp.true (Y.move rfl rfl) ?_
            refine Jp.y 24 rfl (want_as rfl rfl rfl rfl) rfl rfl Kp.true (Y.eql rfl rfl rfl) ?_
            refine Jp.y 25 rfl (want_all rfl) rfl rfl Kp.true (Y.pickT rfl rfl rfl) ?_
            refine Jp.y 19 rfl (want_all rfl) rfl rfl Kp.true (Y.assign rfl rfl) ?_
            refine Jp.done hK16 ?_
            refine Cd.cond rfl (fun g19 => ?_) (fun g19 => ?_)
            · skip
              try simp only [decide_eq_false_iff_not, decide_eq_true_eq, Int.not_lt, Int.not_le, Bool.not_eq_false, Bool.not_eq_true, Bool.not_true, Bool.not_false, Bool.not_eq_true', Bool.not_eq_false', beq_eq_false_iff_ne, ne_eq, beq_iff_eq, bne_iff_ne, bne_eq_false_iff_eq, Classical.not_not] at g19
              refine Cd.seq fun K17 hK17 => ?_
              refine Cd.plain [(0, false)] rfl rfl ?_
              refine Jp.y 4 rfl (want_all rfl) rfl rfl Kp.true (Y.assign rfl rfl) ?_
              refine Jp.done hK17 ?_
              refine Cd.ret [] rfl (res1 rfl rfl) trivial ⟨rfl, congrArg (Value.int .i64) (by first | (exfalso; omega) | (unfold immKP; repeat first | rfl | rw [if_pos (by omega)] | rw [if_neg (by omega)])), rfl⟩
            · skip
              try simp only [decide_eq_false_iff_not, decide_eq_true_eq, Int.not_lt, Int.not_le, Bool.not_eq_false, Bool.not_eq_true, Bool.not_true, Bool.not_false, Bool.not_eq_true', Bool.not_eq_false', beq_eq_false_iff_ne, ne_eq, beq_iff_eq, bne_iff_ne, bne_eq_false_iff_eq, Classical.not_not] at g19
              refine Cd.over rfl hK11 ?_
              refine Cd.seq fun K18 hK18 => ?_
              refine Cd.plain [(0, false), (1, false), (2, false), (3, false)] rfl rfl ?_
              refine Jp.y 26 rfl (want_all rfl) rfl rfl Kp.true (Y.array [(0, _), (1, _), (2, _), (3, _), (4, _), (5, _), (6, _), (7, _)] [_, _, _, _, _, _, _, _] rfl rfl Try.underlying236 Try.sizeOf3 Try.zeroValue236 rfl) ?_
              refine Jp.y 27 rfl (want_all rfl) rfl rfl Kp.true (Y.move rfl rfl) ?_
              refine Jp.y 28 rfl (want_all rfl) rfl rfl Kp.true (Y.indexV (v := .int .i64 (([19, 0, 20, 21, 22, 0, 23, 24].getD f 0 : Nat) : Int)) rfl Try.underlying236 Try.sizeOf3 Try.isAgg3 rfl rfl (by omega) (by omega) hidx) ?_
              refine Jp.y 4 rfl (want_all rfl) rfl rfl Kp.true (Y.assign rfl rfl) ?_
              refine Jp.done hK18 ?_
              refine Cd.ret [] rfl (res1 rfl rfl) trivial ⟨rfl, congrArg (Value.int .i64) (by unfold immKP; rw [if_neg (by omega), if_neg (by omega), if_neg (by omega)]), rfl⟩
          · skip
            try simp only [decide_eq_false_iff_not, decide_eq_true_eq, Int.not_lt, Int.not_le, Bool.not_eq_false, Bool.not_eq_true, Bool.not_true, Bool.not_false, Bool.not_eq_true', Bool.not_eq_false', beq_eq_false_iff_ne, ne_eq, beq_iff_eq, bne_iff_ne, bne_eq_false_iff_eq, Classical.not_not] at g22
            refine Jp.skip 23 rfl (want_as rfl rfl rfl rfl) rfl rfl Kp.true ?_
            refine Jp.skip 24 rfl (want_as rfl rfl rfl rfl) rfl rfl Kp.true ?_
            refine Jp.y 25 rfl (want_all rfl) rfl rfl Kp.true (Y.pickF rfl rfl rfl) ?_
            refine Jp.y 19 rfl (want_all rfl) rfl rfl Kp.true (Y.assign rfl rfl) ?_
            refine Jp.done hK16 ?_
            refine Cd.condF rfl ?_
            refine Cd.over rfl hK11 ?_
            refine Cd.seq fun K19 hK19 => ?_
            refine Cd.plain [(0, false), (1, false), (2, false), (3, false)] rfl rfl ?_
            refine Jp.y 26 rfl (want_all rfl) rfl rfl Kp.true (Y.array [(0, _), (1, _), (2, _), (3, _), (4, _), (5, _), (6, _), (7, _)] [_, _, _, _, _, _, _, _] rfl rfl Try.underlying236 Try.sizeOf3 Try.zeroValue236 rfl) ?_
            refine Jp.y 27 rfl (want_all rfl) rfl rfl Kp.true (Y.move rfl rfl) ?_
            refine Jp.y 28 rfl (want_all rfl) rfl rfl Kp.true (Y.indexV (v := .int .i64 (([19, 0, 20, 21, 22, 0, 23, 24].getD f 0 : Nat) : Int)) rfl Try.underlying236 Try.sizeOf3 Try.isAgg3 rfl rfl (by omega) (by omega) hidx) ?_
            refine Jp.y 4 rfl (want_all rfl) rfl rfl Kp.true (Y.assign rfl rfl) ?_
            refine Jp.done hK19 ?_
            refine Cd.ret [] rfl (res1 rfl rfl) trivial ⟨rfl, congrArg (Value.int .i64) (by unfold immKP; rw [if_neg (by omega), if_neg (by omega), if_neg (by omega)]), rfl⟩
      · skip
        try simp only [decide_eq_false_iff_not, decide_eq_true_eq, Int.not_lt, Int.not_le, Bool.not_eq_false, Bool.not_eq_true, Bool.not_true, Bool.not_false, Bool.not_eq_true', Bool.not_eq_false', beq_eq_false_iff_ne, ne_eq, beq_iff_eq, bne_iff_ne, bne_eq_false_iff_eq, Classical.not_not] at g15
        refine Jp.skip 16 rfl (want_as rfl rfl rfl rfl) rfl rfl Kp.true ?_
        refine Jp.skip 17 rfl (want_as rfl rfl rfl rfl) rfl rfl Kp.true ?_
        refine Jp.y 18 rfl (want_all rfl) rfl rfl Kp.true (Y.pickF rfl rfl rfl) ?_
        refine Jp.y 12 rfl (want_all rfl) rfl rfl Kp.true (Y.assign rfl rfl) ?_
        refine Jp.done hK14 ?_
        refine Cd.condF rfl ?_
        refine Cd.seq fun K20 hK20 => ?_
        refine Cd.plain [(0, false), (1, false), (2, false), (3, false), (4, false), (5, false), (6, false)] rfl rfl ?_
        refine Jp.y 20 rfl (want_all rfl) rfl rfl Kp.true (Y.move rfl rfl) ?_
        refine Jp.y 21 rfl (want_all rfl) rfl rfl Kp.true (Y.eql rfl rfl rfl) ?_
        refine Jp.y 22 rfl (want_all rfl) rfl rfl Kp.true (Y.move rfl rfl) ?_
        refine Jp.split 22 rfl (fun g22 => ?_) (fun g22 => ?_)
        · skip
          try simp only [decide_eq_false_iff_not, decide_eq_true_eq, Int.not_lt, Int.not_le, Bool.not_eq_false, Bool.not_eq_true, Bool.not_true, Bool.not_false, Bool.not_eq_true', Bool.not_eq_false', beq_eq_false_iff_ne, ne_eq, beq_iff_eq, bne_iff_ne, bne_eq_false_iff_eq, Classical.not_not] at g22
          refine Jp.y 23 rfl (want_as rfl rfl rfl rfl) rfl rfl Kp.true (Y.move rfl rfl) ?_
          refine Jp.y 24 rfl (want_as rfl rfl rfl rfl) rfl rfl Kp.true (Y.eql rfl rfl rfl) ?_
          refine Jp.y 25 rfl (want_all rfl) rfl rfl Kp.true (Y.pickT rfl rfl rfl) ?_
          refine Jp.y 19 rfl (want_all rfl) rfl rfl Kp.true (Y.assign rfl rfl) ?_
          refine Jp.done hK20 ?_
          refine Cd.cond rfl (fun g19 => ?_) (fun g19 => ?_)
          · skip
            try simp only [decide_eq_false_iff_not, decide_eq_true_eq, Int.not_lt, Int.not_le, Bool.not_eq_false, Bool.not_eq_true, Bool.not_true, Bool.not_false, Bool.not_eq_true', Bool.not_eq_false', beq_eq_false_iff_ne, ne_eq, beq_iff_eq, bne_iff_ne, bne_eq_false_iff_eq, Classical.not_not] at g19
            refine Cd.seq fun K21 hK21 => ?_
            refine Cd.plain [(0, false)] rfl rfl ?_
            refine Jp.y 4 rfl (want_all rfl) rfl rfl Kp.true (Y.assign rfl rfl) ?_
            refine Jp.done hK21 ?_
            refine Cd.ret [] rfl (res1 rfl rfl) trivial ⟨rfl, congrArg (Value.int .i64) (by first | (exfalso; omega) | (unfold immKP; repeat first | rfl | rw [if_pos (by omega)] | rw [if_neg (by omega)])), rfl⟩
          · skip
            try simp only [decide_eq_false_iff_not, decide_eq_true_eq, Int.not_lt, Int.not_le, Bool.not_eq_false, Bool.not_eq_true, Bool.not_true, Bool.not_false, Bool.not_eq_true', Bool.not_eq_false', beq_eq_false_iff_ne, ne_eq, beq_iff_eq, bne_iff_ne, bne_eq_false_iff_eq, Classical.not_not] at g19
            refine Cd.over rfl hK11 ?_
            refine Cd.seq fun K22 hK22 => ?_
            refine Cd.plain [(0, false), (1, false), (2, false), (3, false)] rfl rfl ?_
            refine Jp.y 26 rfl (want_all rfl) rfl rfl Kp.true (Y.array [(0, _), (1, _), (2, _), (3, _), (4, _), (5, _), (6, _), (7, _)] [_, _, _, _, _, _, _, _] rfl rfl Try.underlying236 Try.sizeOf3 Try.zeroValue236 rfl) ?_
            refine Jp.y 27 rfl (want_all rfl) rfl rfl Kp.true (Y.move rfl rfl) ?_
            refine Jp.y 28 rfl (want_all rfl) rfl rfl Kp.true (Y.indexV (v := .int .i64 (([19, 0, 20, 21, 22, 0, 23, 24].getD f 0 : Nat) : Int)) rfl Try.underlying236 Try.sizeOf3 Try.isAgg3 rfl rfl (by omega) (by omega) hidx) ?_
            refine Jp.y 4 rfl (want_all rfl) rfl rfl Kp.true (Y.assign rfl rfl) ?_
            refine Jp.done hK22 ?_
            refine Cd.ret [] rfl (res1 rfl rfl) trivial ⟨rfl, congrArg (Value.int .i64) (by unfold immKP; rw [if_neg (by omega), if_neg (by omega), if_neg (by omega)]), rfl⟩
        · skip
          try simp only [decide_eq_false_iff_not, decide_eq_true_eq, Int.not_lt, Int.not_le, Bool.not_eq_false, Bool.not_eq_true, Bool.not_true, Bool.not_false, Bool.not_eq_true', Bool.not_eq_false', beq_eq_false_iff_ne, ne_eq, beq_iff_eq, bne_iff_ne, bne_eq_false_iff_eq, Classical.not_not] at g22
          refine Jp.skip 23 rfl (want_as rfl rfl rfl rfl) rfl rfl Kp.true ?_
          refine Jp.skip 24 rfl (want_as rfl rfl rfl rfl) rfl rfl Kp.true ?_
          refine Jp.y 25 rfl (want_all rfl) rfl rfl Kp.true (Y.pickF rfl rfl rfl) ?_
          refine Jp.y 19 rfl (want_all rfl) rfl rfl Kp.true (Y.assign rfl rfl) ?_
          refine Jp.done hK20 ?_
          refine Cd.condF rfl ?_
          refine Cd.over rfl hK11 ?_
          refine Cd.seq fun K23 hK23 => ?_
          refine Cd.plain [(0, false), (1, false), (2, false), (3, false)] rfl rfl ?_
          refine Jp.y 26 rfl (want_all rfl) rfl rfl Kp.true (Y.array [(0, _), (1, _), (2, _), (3, _), (4, _), (5, _), (6, _), (7, _)] [_, _, _, _, _, _, _, _] rfl rfl Try.underlying236 Try.sizeOf3 Try.zeroValue236 rfl) ?_
          refine Jp.y 27 rfl (want_all rfl) rfl rfl Kp.true (Y.move rfl rfl) ?_
          refine Jp.y 28 rfl (want_all rfl) rfl rfl Kp.true (Y.indexV (v := .int .i64 (([19, 0, 20, 21, 22, 0, 23, 24].getD f 0 : Nat) : Int)) rfl Try.underlying236 Try.sizeOf3 Try.isAgg3 rfl rfl (by omega) (by omega) hidx) ?_
          refine Jp.y 4 rfl (want_all rfl) rfl rfl Kp.true (Y.assign rfl rfl) ?_
          refine Jp.done hK23 ?_
          refine Cd.ret [] rfl (res1 rfl rfl) trivial ⟨rfl, congrArg (Value.int .i64) (by unfold immKP; rw [if_neg (by omega), if_neg (by omega), if_neg (by omega)]), rfl⟩
  · skip
    try simp only [decide_eq_false_iff_not, decide_eq_true_eq, Int.not_lt, Int.not_le, Bool.not_eq_false, Bool.not_eq_true, Bool.not_true, Bool.not_false, Bool.not_eq_true', Bool.not_eq_false', beq_eq_false_iff_ne, ne_eq, beq_iff_eq, bne_iff_ne, bne_eq_false_iff_eq, Classical.not_not] at g8
    refine Jp.skip 9 rfl (want_as rfl rfl rfl rfl) rfl rfl Kp.true ?_
    refine Jp.skip 10 rfl (want_as rfl rfl rfl rfl) rfl rfl Kp.true ?_
    refine Jp.y 11 rfl (want_all rfl) rfl rfl Kp.true (Y.pickF rfl rfl rfl) ?_
    refine Jp.y 5 rfl (want_all rfl) rfl rfl Kp.true (Y.assign rfl rfl) ?_
    refine Jp.done hK12 ?_
    refine Cd.condF rfl ?_
    refine Cd.seq fun K24 hK24 => ?_
    refine Cd.plain [(0, false), (1, false), (2, false), (3, false), (4, false), (5, false), (6, false)] rfl rfl ?_
    refine Jp.y 13 rfl (want_all rfl) rfl rfl Kp.true (Y.move rfl rfl) ?_
    refine Jp.y 14 rfl (want_all rfl) rfl rfl Kp.true (Y.eql rfl rfl rfl) ?_
    refine Jp.y 15 rfl (want_all rfl) rfl rfl Kp.true (Y.move rfl rfl) ?_
    refine Jp.split 15 rfl (fun g15 => ?_) (fun g15 => ?_)
    · skip
      try simp only [decide_eq_false_iff_not, decide_eq_true_eq, Int.not_lt, Int.not_le, Bool.not_eq_false, Bool.not_eq_true, Bool.not_true, Bool.not_false, Bool.not_eq_true', Bool.not_eq_false', beq_eq_false_iff_ne, ne_eq, beq_iff_eq, bne_iff_ne, bne_eq_false_iff_eq, Classical.not_not] at g15
      refine Jp.y 16 rfl (want_as rfl rfl rfl rfl) rfl rfl Kp.true (Y.move rfl rfl) ?_
      refine Jp.y 17 rfl (want_as rfl rfl rfl rfl) rfl rfl Kp.true (Y.eql rfl rfl rfl) ?_
      refine Jp.y 18 rfl (want_all rfl) rfl rfl Kp.true (Y.pickT rfl rfl rfl) ?_
      refine Jp.y 12 rfl (want_all rfl) rfl rfl Kp.true (Y.assign rfl rfl) ?_
      refine Jp.done hK24 ?_
      refine Cd.cond rfl (fun g12 => ?_) (fun g12 => ?_)
      · skip
        try simp only [decide_eq_false_iff_not, decide_eq_true_eq, Int.not_lt, Int.not_le, Bool.not_eq_false, Bool.not_eq_true, Bool.not_true, Bool.not_false, Bool.not_eq_true', Bool.not_eq_false', beq_eq_false_iff_ne, ne_eq, beq_iff_eq, bne_iff_ne, bne_eq_false_iff_eq, Classical.not_not] at g12
        refine Cd.seq fun K25 hK25 => ?_
        refine Cd.plain [(0, false)] rfl rfl ?_
        refine Jp.y 4 rfl (want_all rfl) rfl rfl Kp.true (Y.assign rfl rfl) ?_
        refine Jp.done hK25 ?_
        refine Cd.ret [] rfl (res1 rfl rfl) trivial ⟨rfl, congrArg (Value.int .i64) (by first | (exfalso; omega) | (unfold immKP; repeat first | rfl | rw [if_pos (by omega)] | rw [if_neg (by omega)])), rfl⟩
      · skip
        try simp only [decide_eq_false_iff_not, decide_eq_true_eq, Int.not_lt, Int.not_le, Bool.not_eq_false, Bool.not_eq_true, Bool.not_true, Bool.not_false, Bool.not_eq_true', Bool.not_eq_false', beq_eq_false_iff_ne, ne_eq, beq_iff_eq, bne_iff_ne, bne_eq_false_iff_eq, Classical.not_not] at g12
        refine Cd.seq fun K26 hK26 => ?_
        refine Cd.plain [(0, false), (1, false), (2, false), (3, false), (4, false), (5, false), (6, false)] rfl rfl ?_
        refine Jp.y 20 rfl (want_all rfl) rfl rfl Kp.true (Y.move rfl rfl) ?_
        refine Jp.y 21 rfl (want_all rfl) rfl rfl Kp.true (Y.eql rfl rfl rfl) ?_
        refine Jp.y 22 rfl (want_all rfl) rfl rfl Kp.true (Y.move rfl rfl) ?_
        refine Jp.split 22 rfl (fun g22 => ?_) (fun g22 => ?_)
        · skip
          try simp only [decide_eq_false_iff_not, decide_eq_true_eq, Int.not_lt, Int.not_le, Bool.not_eq_false, Bool.not_eq_true, Bool.not_true, Bool.not_false, Bool.not_eq_true', Bool.not_eq_false', beq_eq_false_iff_ne, ne_eq, beq_iff_eq, bne_iff_ne, bne_eq_false_iff_eq, Classical.not_not] at g22
          refine Jp.y 23 rfl (want_as rfl rfl rfl rfl) rfl rfl Kp.true (Y.move rfl rfl) ?_
          refine Jp.y 24 rfl (want_as rfl rfl rfl rfl) rfl rfl Kp.true (Y.eql rfl rfl rfl) ?_
          refine Jp.y 25 rfl (want_all rfl) rfl rfl Kp.true (Y.pickT rfl rfl rfl) ?_
          refine Jp.y 19 rfl (want_all rfl) rfl rfl Kp.true (Y.assign rfl rfl) ?_
          refine Jp.done hK26 ?_
          refine Cd.cond rfl (fun g19 => ?_) (fun g19 => ?_)
          · skip
            try simp only [decide_eq_false_iff_not, decide_eq_true_eq, Int.not_lt, Int.not_le, Bool.not_eq_false, Bool.not_eq_true, Bool.not_true, Bool.not_false, Bool.not_eq_true', Bool.not_eq_false', beq_eq_false_iff_ne, ne_eq, beq_iff_eq, bne_iff_ne, bne_eq_false_iff_eq, Classical.not_not] at g19
            refine Cd.seq fun K27 hK27 => ?_
            refine Cd.plain [(0, false)] rfl rfl ?_
            refine Jp.y 4 rfl (want_all rfl) rfl rfl Kp.true (Y.assign rfl rfl) ?_
            refine Jp.done hK27 ?_
            refine Cd.ret [] rfl (res1 rfl rfl) trivial ⟨rfl, congrArg (Value.int .i64) (by first | (exfalso; omega) | (unfold immKP; repeat first | rfl | rw [if_pos (by omega)] | rw [if_neg (by omega)])), rfl⟩
          · skip
            try simp only [decide_eq_false_iff_not, decide_eq_true_eq, Int.not_lt, Int.not_le, Bool.not_eq_false, Bool.not_eq_true, Bool.not_true, Bool.not_false, Bool.not_eq_true', Bool.not_eq_false', beq_eq_false_iff_ne, ne_eq, beq_iff_eq, bne_iff_ne, bne_eq_false_iff_eq, Classical.not_not] at g19
            refine Cd.over rfl hK11 ?_
            refine Cd.seq fun K28 hK28 => ?_
            refine Cd.plain [(0, false), (1, false), (2, false), (3, false)] rfl rfl ?_
            refine Jp.y 26 rfl (want_all rfl) rfl rfl Kp.true (Y.array [(0, _), (1, _), (2, _), (3, _), (4, _), (5, _), (6, _), (7, _)] [_, _, _, _, _, _, _, _] rfl rfl Try.underlying236 Try.sizeOf3 Try.zeroValue236 rfl) ?_
            refine Jp.y 27 rfl (want_all rfl) rfl rfl Kp.true (Y.move rfl rfl) ?_
            refine Jp.y 28 rfl (want_all rfl) rfl rfl Kp.true (Y.indexV (v := .int .i64 (([19, 0, 20, 21, 22, 0, 23, 24].getD f 0 : Nat) : Int)) rfl Try.underlying236 Try.sizeOf3 Try.isAgg3 rfl rfl (by omega) (by omega) hidx) ?_
            refine Jp.y 4 rfl (want_all rfl) rfl rfl Kp.true (Y.assign rfl rfl) ?_
            refine Jp.done hK28 ?_
            refine Cd.ret [] rfl (res1 rfl rfl) trivial ⟨rfl, congrArg (Value.int .i64) (by unfold immKP; rw [if_neg (by omega), if_neg (by omega), if_neg (by omega)]), rfl⟩
        · skip
          try simp only [decide_eq_false_iff_not, decide_eq_true_eq, Int.not_lt, Int.not_le, Bool.not_eq_false, Bool.not_eq_true, Bool.not_true, Bool.not_false, Bool.not_eq_true', Bool.not_eq_false', beq_eq_false_iff_ne, ne_eq, beq_iff_eq, bne_iff_ne, bne_eq_false_iff_eq, Classical.not_not] at g22
          refine Jp.skip 23 rfl (want_as rfl rfl rfl rfl) rfl rfl Kp.true ?_
          refine Jp.skip 24 rfl (want_as rfl rfl rfl rfl) rfl rfl Kp.true ?_
          refine Jp.y 25 rfl (want_all rfl) rfl rfl Kp.true (Y.pickF rfl rfl rfl) ?_
          refine Jp.y 19 rfl (want_all rfl) rfl rfl Kp.true (Y.assign rfl rfl) ?_
          refine Jp.done hK26 ?_
          refine Cd.condF rfl ?_
          refine Cd.over rfl hK11 ?_
          refine Cd.seq fun K29 hK29 => ?_
          refine Cd.plain [(0, false), (1, false), (2, false), (3, false)] rfl rfl ?_
          refine Jp.y 26 rfl (want_all rfl) rfl rfl Kp.true (Y.array [(0, _), (1, _), (2, _), (3, _), (4, _), (5, _), (6, _), (7, _)] [_, _, _, _, _, _, _, _] rfl rfl Try.underlying236 Try.sizeOf3 Try.zeroValue236 rfl) ?_
          refine Jp.y 27 rfl (want_all rfl) rfl rfl Kp.true (Y.move rfl rfl) ?_
          refine Jp.y 28 rfl (want_all rfl) rfl rfl Kp.true (Y.indexV (v := .int .i64 (([19, 0, 20, 21, 22, 0, 23, 24].getD f 0 : Nat) : Int)) rfl Try.underlying236 Try.sizeOf3 Try.isAgg3 rfl rfl (by omega) (by omega) hidx) ?_
          refine Jp.y 4 rfl (want_all rfl) rfl rfl Kp.true (Y.assign rfl rfl) ?_
          refine Jp.done hK29 ?_
          refine Cd.ret [] rfl (res1 rfl rfl) trivial ⟨rfl, congrArg (Value.int .i64) (by unfold immKP; rw [if_neg (by omega), if_neg (by omega), if_neg (by omega)]), rfl⟩
    · skip
      try simp only [decide_eq_false_iff_not, decide_eq_true_eq, Int.not_lt, Int.not_le, Bool.not_eq_false, Bool.not_eq_true, Bool.not_true, Bool.not_false, Bool.not_eq_true', Bool.not_eq_false', beq_eq_false_iff_ne, ne_eq, beq_iff_eq, bne_iff_ne, bne_eq_false_iff_eq, Classical.not_not] at g15
      refine Jp.skip 16 rfl (want_as rfl rfl rfl rfl) rfl rfl Kp.true ?_
      refine Jp.skip 17 rfl (want_as rfl rfl rfl rfl) rfl rfl Kp.true ?_
      refine Jp.y 18 rfl (want_all rfl) rfl rfl Kp.true (Y.pickF rfl rfl rfl) ?_
      refine Jp.y 12 rfl (want_all rfl) rfl rfl Kp.true (Y.assign rfl rfl) ?_
      refine Jp.done hK24 ?_
      refine Cd.condF rfl ?_
      refine Cd.seq fun K30 hK30 => ?_
      refine Cd.plain [(0, false), (1, false), (2, false), (3, false), (4, false), (5, false), (6, false)] rfl rfl ?_
      refine Jp.y 20 rfl (want_all rfl) rfl rfl Kp.true (Y.move rfl rfl) ?_
      refine Jp.y 21 rfl (want_all rfl) rfl rfl Kp.true (Y.eql rfl rfl rfl) ?_
      refine Jp.y 22 rfl (want_all rfl) rfl rfl Kp.true (Y.move rfl rfl) ?_
      refine Jp.split 22 rfl (fun g22 => ?_) (fun g22 => ?_)
      · skip
        try simp only [decide_eq_false_iff_not, decide_eq_true_eq, Int.not_lt, Int.not_le, Bool.not_eq_false, Bool.not_eq_true, Bool.not_true, Bool.not_false, Bool.not_eq_true', Bool.not_eq_false', beq_eq_false_iff_ne, ne_eq, beq_iff_eq, bne_iff_ne, bne_eq_false_iff_eq, Classical.not_not] at g22
        refine Jp.y 23 rfl (want_as rfl rfl rfl rfl) rfl rfl Kp.true (Y.move rfl rfl) ?_
        refine Jp.y 24 rfl (want_as rfl rfl rfl rfl) rfl rfl Kp.true (Y.eql rfl rfl rfl) ?_
        refine Jp.y 25 rfl (want_all rfl) rfl rfl Kp.true (Y.pickT rfl rfl rfl) ?_
        refine Jp.y 19 rfl (want_all rfl) rfl rfl Kp.true (Y.assign rfl rfl) ?_
        refine Jp.done hK30 ?_
        refine Cd.cond rfl (fun g19 => ?_) (fun g19 => ?_)
        · skip
          try simp only [decide_eq_false_iff_not, decide_eq_true_eq, Int.not_lt, Int.not_le, Bool.not_eq_false, Bool.not_eq_true, Bool.not_true, Bool.not_false, Bool.not_eq_true', Bool.not_eq_false', beq_eq_false_iff_ne, ne_eq, beq_iff_eq, bne_iff_ne, bne_eq_false_iff_eq, Classical.not_not] at g19
          refine Cd.seq fun K31 hK31 => ?_
          refine Cd.plain [(0, false)] rfl rfl ?_
          refine Jp.y 4 rfl (want_all rfl) rfl rfl Kp.true (Y.assign rfl rfl) ?_
          refine Jp.done hK31 ?_
          refine Cd.ret [] rfl (res1 rfl rfl) trivial ⟨rfl, congrArg (Value.int .i64) (by first | (exfalso; omega) | (unfold immKP; repeat first | rfl | rw [if_pos (by omega)] | rw [if_neg (by omega)])), rfl⟩
        · skip
          try simp only [decide_eq_false_iff_not, decide_eq_true_eq, Int.not_lt, Int.not_le, Bool.not_eq_false, Bool.not_eq_true, Bool.not_true, Bool.not_false, Bool.not_eq_true', Bool.not_eq_false', beq_eq_false_iff_ne, ne_eq, beq_iff_eq, bne_iff_ne, bne_eq_false_iff_eq, Classical.not_not] at g19
          refine Cd.over rfl hK11 ?_
          refine Cd.seq fun K32 hK32 => ?_
          refine Cd.plain [(0, false), (1, false), (2, false), (3, false)] rfl rfl ?_
          refine Jp.y 26 rfl (want_all rfl) rfl rfl Kp.true (Y.array [(0, _), (1, _), (2, _), (3, _), (4, _), (5, _), (6, _), (7, _)] [_, _, _, _, _, _, _, _] rfl rfl Try.underlying236 Try.sizeOf3 Try.zeroValue236 rfl) ?_
          refine Jp.y 27 rfl (want_all rfl) rfl rfl Kp.true (Y.move rfl rfl) ?_
          refine Jp.y 28 rfl (want_all rfl) rfl rfl Kp.true (Y.indexV (v := .int .i64 (([19, 0, 20, 21, 22, 0, 23, 24].getD f 0 : Nat) : Int)) rfl Try.underlying236 Try.sizeOf3 Try.isAgg3 rfl rfl (by omega) (by omega) hidx) ?_
          refine Jp.y 4 rfl (want_all rfl) rfl rfl Kp.true (Y.assign rfl rfl) ?_
          refine Jp.done hK32 ?_
          refine Cd.ret [] rfl (res1 rfl rfl) trivial ⟨rfl, congrArg (Value.int .i64) (by unfold immKP; rw [if_neg (by omega), if_neg (by omega), if_neg (by omega)]), rfl⟩
      · skip
        try simp only [decide_eq_false_iff_not, decide_eq_true_eq, Int.not_lt, Int.not_le, Bool.not_eq_false, Bool.not_eq_true, Bool.not_true, Bool.not_false, Bool.not_eq_true', Bool.not_eq_false', beq_eq_false_iff_ne, ne_eq, beq_iff_eq, bne_iff_ne, bne_eq_false_iff_eq, Classical.not_not] at g22
        refine Jp.skip 23 rfl (want_as rfl rfl rfl rfl) rfl rfl Kp.true ?_
        refine Jp.skip 24 rfl (want_as rfl rfl rfl rfl) rfl rfl Kp.true ?_
        refine Jp.y 25 rfl (want_all rfl) rfl rfl Kp.true (Y.pickF rfl rfl rfl) ?_
        refine Jp.y 19 rfl (want_all rfl) rfl rfl Kp.true (Y.assign rfl rfl) ?_
        refine Jp.done hK30 ?_
        refine Cd.condF rfl ?_
        refine Cd.over rfl hK11 ?_
        refine Cd.seq fun K33 hK33 => ?_
        refine Cd.plain [(0, false), (1, false), (2, false), (3, false)] rfl rfl ?_
        refine Jp.y 26 rfl (want_all rfl) rfl rfl Kp.true (Y.array [(0, _), (1, _), (2, _), (3, _), (4, _), (5, _), (6, _), (7, _)] [_, _, _, _, _, _, _, _] rfl rfl Try.underlying236 Try.sizeOf3 Try.zeroValue236 rfl) ?_
        refine Jp.y 27 rfl (want_all rfl) rfl rfl Kp.true (Y.move rfl rfl) ?_
        refine Jp.y 28 rfl (want_all rfl) rfl rfl Kp.true (Y.indexV (v := .int .i64 (([19, 0, 20, 21, 22, 0, 23, 24].getD f 0 : Nat) : Int)) rfl Try.underlying236 Try.sizeOf3 Try.isAgg3 rfl rfl (by omega) (by omega) hidx) ?_
        refine Jp.y 4 rfl (want_all rfl) rfl rfl Kp.true (Y.assign rfl rfl) ?_
        refine Jp.done hK33 ?_
        refine Cd.ret [] rfl (res1 rfl rfl) trivial ⟨rfl, congrArg (Value.int .i64) (by unfold immKP; rw [if_neg (by omega), if_neg (by omega), if_neg (by omega)]), rfl⟩
theorem systemK_spec (w : Nat) : Spec Try.prog 115 #[.int .u32 w] (fun _ => True) [] (fun ρ ρ' v L => ρ' = ρ ∧ v = .int .i64 ((systemP w : Nat) : Int) ∧ L = []) := by
  refine Spec.of 8 Try.func115 rfl Try.ntmps115 [(0, _)] rfl rfl ?_
  intro cx ρ hr h0
  refine Cd.seq fun K34 hK34 => ?_
  refine Cd.plain [(0, false)] rfl rfl ?_
  refine Jp.y 2 rfl (want_all rfl) rfl rfl Kp.true (Y.assign rfl rfl) ?_
  refine Jp.done hK34 ?_
  refine Cd.seq fun K35 hK35 => ?_
  refine Cd.seq fun K36 hK36 => ?_
  refine Cd.plain [(0, false)] rfl rfl ?_
  refine Jp.y 3 rfl (want_all rfl) rfl rfl Kp.true (Y.move rfl rfl) ?_
  refine Jp.done hK36 ?_
  refine Cd.block ?_
  refine Cd.seq fun K37 hK37 => ?_
  refine Cd.plain [(0, false), (1, false)] rfl rfl ?_
  refine Jp.y 5 rfl (want_all rfl) rfl rfl Kp.true (Y.eql rfl rfl rfl) ?_
  refine Jp.y 4 rfl (want_all rfl) rfl rfl Kp.true (Y.assign rfl rfl) ?_
  refine Jp.done hK37 ?_
  refine Cd.cond rfl (fun g4 => ?_) (fun g4 => ?_)
  · skip
    try simp only [decide_eq_false_iff_not, decide_eq_true_eq, Int.not_lt, Int.not_le, Bool.not_eq_false, Bool.not_eq_true, Bool.not_true, Bool.not_false, Bool.not_eq_true', Bool.not_eq_false', beq_eq_false_iff_ne, ne_eq, beq_iff_eq, bne_iff_ne, bne_eq_false_iff_eq, Classical.not_not] at g4
    refine Cd.seq fun K38 hK38 => ?_
    refine Cd.plain [(0, false)] rfl rfl ?_
    refine Jp.y 2 rfl (want_all rfl) rfl rfl Kp.true (Y.assign rfl rfl) ?_
    refine Jp.done hK38 ?_
    refine Cd.ret [] rfl (res1 rfl rfl) trivial ⟨rfl, congrArg (Value.int .i64) (by first | (exfalso; omega) | (unfold systemP; repeat first | rfl | rw [if_pos (by omega)] | rw [if_neg (by omega)])), rfl⟩
  · skip
    try simp only [decide_eq_false_iff_not, decide_eq_true_eq, Int.not_lt, Int.not_le, Bool.not_eq_false, Bool.not_eq_true, Bool.not_true, Bool.not_false, Bool.not_eq_true', Bool.not_eq_false', beq_eq_false_iff_ne, ne_eq, beq_iff_eq, bne_iff_ne, bne_eq_false_iff_eq, Classical.not_not] at g4
    refine Cd.seq fun K39 hK39 => ?_
    refine Cd.plain [(0, false), (1, false)] rfl rfl ?_
    refine Jp.y 7 rfl (want_all rfl) rfl rfl Kp.true (Y.eql rfl rfl rfl) ?_
    refine Jp.y 6 rfl (want_all rfl) rfl rfl Kp.true (Y.assign rfl rfl) ?_
    refine Jp.done hK39 ?_
    refine Cd.cond rfl (fun g6 => ?_) (fun g6 => ?_)
    · skip
      try simp only [decide_eq_false_iff_not, decide_eq_true_eq, Int.not_lt, Int.not_le, Bool.not_eq_false, Bool.not_eq_true, Bool.not_true, Bool.not_false, Bool.not_eq_true', Bool.not_eq_false', beq_eq_false_iff_ne, ne_eq, beq_iff_eq, bne_iff_ne, bne_eq_false_iff_eq, Classical.not_not] at g6
      refine Cd.seq fun K40 hK40 => ?_
      refine Cd.plain [(0, false)] rfl rfl ?_
      refine Jp.y 2 rfl (want_all rfl) rfl rfl Kp.true (Y.assign rfl rfl) ?_
      refine Jp.done hK40 ?_
      refine Cd.ret [] rfl (res1 rfl rfl) trivial ⟨rfl, congrArg (Value.int .i64) (by first | (exfalso; omega) | (unfold systemP; repeat first | rfl | rw [if_pos (by omega)] | rw [if_neg (by omega)])), rfl⟩
    · skip
      try simp only [decide_eq_false_iff_not, decide_eq_true_eq, Int.not_lt, Int.not_le, Bool.not_eq_false, Bool.not_eq_true, Bool.not_true, Bool.not_false, Bool.not_eq_true', Bool.not_eq_false', beq_eq_false_iff_ne, ne_eq, beq_iff_eq, bne_iff_ne, bne_eq_false_iff_eq, Classical.not_not] at g6
      refine Cd.over rfl hK35 ?_
      refine Cd.seq fun K41 hK41 => ?_
      refine Cd.plain [(0, false)] rfl rfl ?_
      refine Jp.y 2 rfl (want_all rfl) rfl rfl Kp.true (Y.assign rfl rfl) ?_
      refine Jp.done hK41 ?_
      refine Cd.ret [] rfl (res1 rfl rfl) trivial ⟨rfl, congrArg (Value.int .i64) (by first | (exfalso; omega) | (unfold systemP; repeat first | rfl | rw [if_pos (by omega)] | rw [if_neg (by omega)])), rfl⟩
theorem regK_spec (f top : Nat) (hf : f < 8) (ht : top < 128) : Spec Try.prog 114 #[.int .i64 f, .int .i64 top] (fun _ => True) [] (fun ρ ρ' v L => ρ' = ρ ∧ v = .int .i64 ((regKP f top : Nat) : Int) ∧ L = []) := by
  refine Spec.of 30 Try.func114 rfl Try.ntmps114 [(0, _), (1, _)] rfl rfl ?_
  intro cx ρ hr h0
  have hidx : (#[Value.int .i64 28, Value.int .i64 30, Value.int .i64 31, Value.int .i64 32, Value.int .i64 33, Value.int .i64 34, Value.int .i64 36, Value.int .i64 37] : Array Value)[(f : Int).toNat * 1]? = some (.int .i64 (([28, 30, 31, 32, 33, 34, 36, 37].getD f 0 : Nat) : Int)) := by
    rcases (show f = 0 ∨ f = 1 ∨ f = 2 ∨ f = 3 ∨ f = 4 ∨ f = 5 ∨ f = 6 ∨ f = 7 by omega) with rfl | rfl | rfl | rfl | rfl | rfl | rfl | rfl <;> rfl
  refine Cd.seq fun K42 hK42 => ?_
  refine Cd.plain [(0, false)] rfl rfl ?_
  refine Jp.y 4 rfl (want_all rfl) rfl rfl Kp.true (Y.assign rfl rfl) ?_
  refine Jp.done hK42 ?_
  refine Cd.seq fun K43 hK43 => ?_
  refine Cd.block ?_
  refine Cd.seq fun K44 hK44 => ?_
  refine Cd.plain [(0, false), (1, false), (2, false)] rfl rfl ?_
  refine Jp.y 6 rfl (want_all rfl) rfl rfl Kp.true (Y.move rfl rfl) ?_
  refine Jp.y 7 rfl (want_all rfl) rfl rfl Kp.true (Y.eql rfl rfl rfl) ?_
  refine Jp.y 5 rfl (want_all rfl) rfl rfl Kp.true (Y.assign rfl rfl) ?_
  refine Jp.done hK44 ?_
  refine Cd.cond rfl (fun g5 => ?_) (fun g5 => ?_)
  · skip
    try simp only [decide_eq_false_iff_not, decide_eq_true_eq, Int.not_lt, Int.not_le, Bool.not_eq_false, Bool.not_eq_true, Bool.not_true, Bool.not_false, Bool.not_eq_true', Bool.not_eq_false', beq_eq_false_iff_ne, ne_eq, beq_iff_eq, bne_iff_ne, bne_eq_false_iff_eq, Classical.not_not] at g5
    refine Cd.seq fun K45 hK45 => ?_
    refine Cd.plain [(0, false), (1, false), (2, false), (3, false)] rfl rfl ?_
    refine Jp.y 8 rfl (want_all rfl) rfl rfl Kp.true (Y.array [(0, _), (1, _), (2, _), (3, _), (4, _), (5, _), (6, _), (7, _)] [_, _, _, _, _, _, _, _] rfl rfl Try.underlying236 Try.sizeOf3 Try.zeroValue236 rfl) ?_
    refine Jp.y 9 rfl (want_all rfl) rfl rfl Kp.true (Y.move rfl rfl) ?_
    refine Jp.y 10 rfl (want_all rfl) rfl rfl Kp.true (Y.indexV (v := .int .i64 (([28, 30, 31, 32, 33, 34, 36, 37].getD f 0 : Nat) : Int)) rfl Try.underlying236 Try.sizeOf3 Try.isAgg3 rfl rfl (by omega) (by omega) hidx) ?_
    refine Jp.y 4 rfl (want_all rfl) rfl rfl Kp.true (Y.assign rfl rfl) ?_
    refine Jp.done hK45 ?_
    refine Cd.ret [] rfl (res1 rfl rfl) trivial ⟨rfl, congrArg (Value.int .i64) (by unfold regKP; rw [if_pos (by omega)]), rfl⟩
  · skip
    try simp only [decide_eq_false_iff_not, decide_eq_true_eq, Int.not_lt, Int.not_le, Bool.not_eq_false, Bool.not_eq_true, Bool.not_true, Bool.not_false, Bool.not_eq_true', Bool.not_eq_false', beq_eq_false_iff_ne, ne_eq, beq_iff_eq, bne_iff_ne, bne_eq_false_iff_eq, Classical.not_not] at g5
    refine Cd.seq fun K46 hK46 => ?_
    refine Cd.plain [(0, false), (1, false), (2, false)] rfl rfl ?_
    refine Jp.y 12 rfl (want_all rfl) rfl rfl Kp.true (Y.move rfl rfl) ?_
    refine Jp.y 13 rfl (want_all rfl) rfl rfl Kp.true (Y.eql rfl rfl rfl) ?_
    refine Jp.y 11 rfl (want_all rfl) rfl rfl Kp.true (Y.assign rfl rfl) ?_
    refine Jp.done hK46 ?_
    refine Cd.cond rfl (fun g11 => ?_) (fun g11 => ?_)
    · skip
      try simp only [decide_eq_false_iff_not, decide_eq_true_eq, Int.not_lt, Int.not_le, Bool.not_eq_false, Bool.not_eq_true, Bool.not_true, Bool.not_false, Bool.not_eq_true', Bool.not_eq_false', beq_eq_false_iff_ne, ne_eq, beq_iff_eq, bne_iff_ne, bne_eq_false_iff_eq, Classical.not_not] at g11
      refine Cd.seq fun K47 hK47 => ?_
      refine Cd.plain [(0, false), (1, false), (2, false)] rfl rfl ?_
      refine Jp.y 14 rfl (want_all rfl) rfl rfl Kp.true (Y.move rfl rfl) ?_
      refine Jp.y 15 rfl (want_all rfl) rfl rfl Kp.true (Y.add_ rfl rfl rfl (by first | exact wrap_i64 (by omega) (by omega) | rfl)) ?_
      refine Jp.y 4 rfl (want_all rfl) rfl rfl Kp.true (Y.assign rfl rfl) ?_
      refine Jp.done hK47 ?_
      refine Cd.ret [] rfl (res1 rfl rfl) trivial ⟨rfl, congrArg (Value.int .i64) (by first | (exfalso; omega) | (unfold regKP; repeat first | rfl | rw [if_pos (by omega)] | rw [if_neg (by omega)])), rfl⟩
    · skip
      try simp only [decide_eq_false_iff_not, decide_eq_true_eq, Int.not_lt, Int.not_le, Bool.not_eq_false, Bool.not_eq_true, Bool.not_true, Bool.not_false, Bool.not_eq_true', Bool.not_eq_false', beq_eq_false_iff_ne, ne_eq, beq_iff_eq, bne_iff_ne, bne_eq_false_iff_eq, Classical.not_not] at g11
      refine Cd.seq fun K48 hK48 => ?_
      refine Cd.plain [(0, false), (1, false), (2, false), (3, false), (4, false), (5, false), (6, false)] rfl rfl ?_
      refine Jp.y 17 rfl (want_all rfl) rfl rfl Kp.true (Y.move rfl rfl) ?_
      refine Jp.y 18 rfl (want_all rfl) rfl rfl Kp.true (Y.eql rfl rfl rfl) ?_
      refine Jp.y 19 rfl (want_all rfl) rfl rfl Kp.true (Y.move rfl rfl) ?_
      refine Jp.split 19 rfl (fun g19 => ?_) (fun g19 => ?_)
      · skip
        try simp only [decide_eq_false_iff_not, decide_eq_true_eq, Int.not_lt, Int.not_le, Bool.not_eq_false, Bool.not_eq_true, Bool.not_true, Bool.not_false, Bool.not_eq_true', Bool.not_eq_false', beq_eq_false_iff_ne, ne_eq, beq_iff_eq, bne_iff_ne, bne_eq_false_iff_eq, Classical.not_not] at g19
        refine Jp.y 20 rfl (want_as rfl rfl rfl rfl) rfl rfl Kp.true (Y.move rfl rfl) ?_
        refine Jp.y 21 rfl (want_as rfl rfl rfl rfl) rfl rfl Kp.true (Y.eql rfl rfl rfl) ?_
        refine Jp.y 22 rfl (want_all rfl) rfl rfl Kp.true (Y.pickT rfl rfl rfl) ?_
        refine Jp.y 16 rfl (want_all rfl) rfl rfl Kp.true (Y.assign rfl rfl) ?_
        refine Jp.done hK48 ?_
        refine Cd.cond rfl (fun g16 => ?_) (fun g16 => ?_)
        · skip
          try simp only [decide_eq_false_iff_not, decide_eq_true_eq, Int.not_lt, Int.not_le, Bool.not_eq_false, Bool.not_eq_true, Bool.not_true, Bool.not_false, Bool.not_eq_true', Bool.not_eq_false', beq_eq_false_iff_ne, ne_eq, beq_iff_eq, bne_iff_ne, bne_eq_false_iff_eq, Classical.not_not] at g16
          refine Cd.seq fun K49 hK49 => ?_
          refine Cd.plain [(0, false)] rfl rfl ?_
          refine Jp.y 4 rfl (want_all rfl) rfl rfl Kp.true (Y.assign rfl rfl) ?_
          refine Jp.done hK49 ?_
          refine Cd.ret [] rfl (res1 rfl rfl) trivial ⟨rfl, congrArg (Value.int .i64) (by first | (exfalso; omega) | (unfold regKP; repeat first | rfl | rw [if_pos (by omega)] | rw [if_neg (by omega)])), rfl⟩
        · skip
          try simp only [decide_eq_false_iff_not, decide_eq_true_eq, Int.not_lt, Int.not_le, Bool.not_eq_false, Bool.not_eq_true, Bool.not_true, Bool.not_false, Bool.not_eq_true', Bool.not_eq_false', beq_eq_false_iff_ne, ne_eq, beq_iff_eq, bne_iff_ne, bne_eq_false_iff_eq, Classical.not_not] at g16
          refine Cd.seq fun K50 hK50 => ?_
          refine Cd.plain [(0, false), (1, false), (2, false), (3, false), (4, false), (5, false), (6, false)] rfl rfl ?_
          refine Jp.y 24 rfl (want_all rfl) rfl rfl Kp.true (Y.move rfl rfl) ?_
          refine Jp.y 25 rfl (want_all rfl) rfl rfl Kp.true (Y.eql rfl rfl rfl) ?_
          refine Jp.y 26 rfl (want_all rfl) rfl rfl Kp.true (Y.move rfl rfl) ?_
          refine Jp.split 26 rfl (fun g26 => ?_) (fun g26 => ?_)
          · skip
            try simp only [decide_eq_false_iff_not, decide_eq_true_eq, Int.not_lt, Int.not_le, Bool.not_eq_false, Bool.not_eq_true, Bool.not_true, Bool.not_false, Bool.not_eq_true', Bool.not_eq_false', beq_eq_false_iff_ne, ne_eq, beq_iff_eq, bne_iff_ne, bne_eq_false_iff_eq, Classical.not_not] at g26
            refine Jp.y 27 rfl (want_as rfl rfl rfl rfl) rfl rfl Kp.true (Y.move rfl rfl) ?_
            refine Jp.y 28 rfl (want_as rfl rfl rfl rfl) rfl rfl Kp.true (Y.eql rfl rfl rfl) ?_
            refine Jp.y 29 rfl (want_all rfl) rfl rfl Kp.true (Y.pickT rfl rfl rfl) ?_
            refine Jp.y 23 rfl (want_all rfl) rfl rfl Kp.true (Y.assign rfl rfl) ?_
            refine Jp.done hK50 ?_
            refine Cd.cond rfl (fun g23 => ?_) (fun g23 => ?_)
            · skip
              try simp only [decide_eq_false_iff_not, decide_eq_true_eq, Int.not_lt, Int.not_le, Bool.not_eq_false, Bool.not_eq_true, Bool.not_true, Bool.not_false, Bool.not_eq_true', Bool.not_eq_false', beq_eq_false_iff_ne, ne_eq, beq_iff_eq, bne_iff_ne, bne_eq_false_iff_eq, Classical.not_not] at g23
              refine Cd.seq fun K51 hK51 => ?_
              refine Cd.plain [(0, false)] rfl rfl ?_
              refine Jp.y 4 rfl (want_all rfl) rfl rfl Kp.true (Y.assign rfl rfl) ?_
              refine Jp.done hK51 ?_
              refine Cd.ret [] rfl (res1 rfl rfl) trivial ⟨rfl, congrArg (Value.int .i64) (by first | (exfalso; omega) | (unfold regKP; repeat first | rfl | rw [if_pos (by omega)] | rw [if_neg (by omega)])), rfl⟩
            · skip
              try simp only [decide_eq_false_iff_not, decide_eq_true_eq, Int.not_lt, Int.not_le, Bool.not_eq_false, Bool.not_eq_true, Bool.not_true, Bool.not_false, Bool.not_eq_true', Bool.not_eq_false', beq_eq_false_iff_ne, ne_eq, beq_iff_eq, bne_iff_ne, bne_eq_false_iff_eq, Classical.not_not] at g23
              refine Cd.over rfl hK43 ?_
              refine Cd.seq fun K52 hK52 => ?_
              refine Cd.plain [(0, false)] rfl rfl ?_
              refine Jp.y 4 rfl (want_all rfl) rfl rfl Kp.true (Y.assign rfl rfl) ?_
              refine Jp.done hK52 ?_
              refine Cd.ret [] rfl (res1 rfl rfl) trivial ⟨rfl, congrArg (Value.int .i64) (by first | (exfalso; omega) | (unfold regKP; repeat first | rfl | rw [if_pos (by omega)] | rw [if_neg (by omega)])), rfl⟩
          · skip
            try simp only [decide_eq_false_iff_not, decide_eq_true_eq, Int.not_lt, Int.not_le, Bool.not_eq_false, Bool.not_eq_true, Bool.not_true, Bool.not_false, Bool.not_eq_true', Bool.not_eq_false', beq_eq_false_iff_ne, ne_eq, beq_iff_eq, bne_iff_ne, bne_eq_false_iff_eq, Classical.not_not] at g26
            refine Jp.skip 27 rfl (want_as rfl rfl rfl rfl) rfl rfl Kp.true ?_
            refine Jp.skip 28 rfl (want_as rfl rfl rfl rfl) rfl rfl Kp.true ?_
            refine Jp.y 29 rfl (want_all rfl) rfl rfl Kp.true (Y.pickF rfl rfl rfl) ?_
            refine Jp.y 23 rfl (want_all rfl) rfl rfl Kp.true (Y.assign rfl rfl) ?_
            refine Jp.done hK50 ?_
            refine Cd.condF rfl ?_
            refine Cd.over rfl hK43 ?_
            refine Cd.seq fun K53 hK53 => ?_
            refine Cd.plain [(0, false)] rfl rfl ?_
            refine Jp.y 4 rfl (want_all rfl) rfl rfl Kp.true (Y.assign rfl rfl) ?_
            refine Jp.done hK53 ?_
            refine Cd.ret [] rfl (res1 rfl rfl) trivial ⟨rfl, congrArg (Value.int .i64) (by first | (exfalso; omega) | (unfold regKP; repeat first | rfl | rw [if_pos (by omega)] | rw [if_neg (by omega)])), rfl⟩
      · skip
        try simp only [decide_eq_false_iff_not, decide_eq_true_eq, Int.not_lt, Int.not_le, Bool.not_eq_false, Bool.not_eq_true, Bool.not_true, Bool.not_false, Bool.not_eq_true', Bool.not_eq_false', beq_eq_false_iff_ne, ne_eq, beq_iff_eq, bne_iff_ne, bne_eq_false_iff_eq, Classical.not_not] at g19
        refine Jp.skip 20 rfl (want_as rfl rfl rfl rfl) rfl rfl Kp.true ?_
        refine Jp.skip 21 rfl (want_as rfl rfl rfl rfl) rfl rfl Kp.true ?_
        refine Jp.y 22 rfl (want_all rfl) rfl rfl Kp.true (Y.pickF rfl rfl rfl) ?_
        refine Jp.y 16 rfl (want_all rfl) rfl rfl Kp.true (Y.assign rfl rfl) ?_
        refine Jp.done hK48 ?_
        refine Cd.condF rfl ?_
        refine Cd.seq fun K54 hK54 => ?_
        refine Cd.plain [(0, false), (1, false), (2, false), (3, false), (4, false), (5, false), (6, false)] rfl rfl ?_
        refine Jp.y 24 rfl (want_all rfl) rfl rfl Kp.true (Y.move rfl rfl) ?_
        refine Jp.y 25 rfl (want_all rfl) rfl rfl Kp.true (Y.eql rfl rfl rfl) ?_
        refine Jp.y 26 rfl (want_all rfl) rfl rfl Kp.true (Y.move rfl rfl) ?_
        refine Jp.split 26 rfl (fun g26 => ?_) (fun g26 => ?_)
        · skip
          try simp only [decide_eq_false_iff_not, decide_eq_true_eq, Int.not_lt, Int.not_le, Bool.not_eq_false, Bool.not_eq_true, Bool.not_true, Bool.not_false, Bool.not_eq_true', Bool.not_eq_false', beq_eq_false_iff_ne, ne_eq, beq_iff_eq, bne_iff_ne, bne_eq_false_iff_eq, Classical.not_not] at g26
          refine Jp.y 27 rfl (want_as rfl rfl rfl rfl) rfl rfl Kp.true (Y.move rfl rfl) ?_
          refine Jp.y 28 rfl (want_as rfl rfl rfl rfl) rfl rfl Kp.true (Y.eql rfl rfl rfl) ?_
          refine Jp.y 29 rfl (want_all rfl) rfl rfl Kp.true (Y.pickT rfl rfl rfl) ?_
          refine Jp.y 23 rfl (want_all rfl) rfl rfl Kp.true (Y.assign rfl rfl) ?_
          refine Jp.done hK54 ?_
          refine Cd.cond rfl (fun g23 => ?_) (fun g23 => ?_)
          · skip
            try simp only [decide_eq_false_iff_not, decide_eq_true_eq, Int.not_lt, Int.not_le, Bool.not_eq_false, Bool.not_eq_true, Bool.not_true, Bool.not_false, Bool.not_eq_true', Bool.not_eq_false', beq_eq_false_iff_ne, ne_eq, beq_iff_eq, bne_iff_ne, bne_eq_false_iff_eq, Classical.not_not] at g23
            refine Cd.seq fun K55 hK55 => ?_
            refine Cd.plain [(0, false)] rfl rfl ?_
            refine Jp.y 4 rfl (want_all rfl) rfl rfl Kp.true (Y.assign rfl rfl) ?_
            refine Jp.done hK55 ?_
            refine Cd.ret [] rfl (res1 rfl rfl) trivial ⟨rfl, congrArg (Value.int .i64) (by first | (exfalso; omega) | (unfold regKP; repeat first | rfl | rw [if_pos (by omega)] | rw [if_neg (by omega)])), rfl⟩
          · skip
            try simp only [decide_eq_false_iff_not, decide_eq_true_eq, Int.not_lt, Int.not_le, Bool.not_eq_false, Bool.not_eq_true, Bool.not_true, Bool.not_false, Bool.not_eq_true', Bool.not_eq_false', beq_eq_false_iff_ne, ne_eq, beq_iff_eq, bne_iff_ne, bne_eq_false_iff_eq, Classical.not_not] at g23
            refine Cd.over rfl hK43 ?_
            refine Cd.seq fun K56 hK56 => ?_
            refine Cd.plain [(0, false)] rfl rfl ?_
            refine Jp.y 4 rfl (want_all rfl) rfl rfl Kp.true (Y.assign rfl rfl) ?_
            refine Jp.done hK56 ?_
            refine Cd.ret [] rfl (res1 rfl rfl) trivial ⟨rfl, congrArg (Value.int .i64) (by first | (exfalso; omega) | (unfold regKP; repeat first | rfl | rw [if_pos (by omega)] | rw [if_neg (by omega)])), rfl⟩
        · skip
          try simp only [decide_eq_false_iff_not, decide_eq_true_eq, Int.not_lt, Int.not_le, Bool.not_eq_false, Bool.not_eq_true, Bool.not_true, Bool.not_false, Bool.not_eq_true', Bool.not_eq_false', beq_eq_false_iff_ne, ne_eq, beq_iff_eq, bne_iff_ne, bne_eq_false_iff_eq, Classical.not_not] at g26
          refine Jp.skip 27 rfl (want_as rfl rfl rfl rfl) rfl rfl Kp.true ?_
          refine Jp.skip 28 rfl (want_as rfl rfl rfl rfl) rfl rfl Kp.true ?_
          refine Jp.y 29 rfl (want_all rfl) rfl rfl Kp.true (Y.pickF rfl rfl rfl) ?_
          refine Jp.y 23 rfl (want_all rfl) rfl rfl Kp.true (Y.assign rfl rfl) ?_
          refine Jp.done hK54 ?_
          refine Cd.condF rfl ?_
          refine Cd.over rfl hK43 ?_
          refine Cd.seq fun K57 hK57 => ?_
          refine Cd.plain [(0, false)] rfl rfl ?_
          refine Jp.y 4 rfl (want_all rfl) rfl rfl Kp.true (Y.assign rfl rfl) ?_
          refine Jp.done hK57 ?_
          refine Cd.ret [] rfl (res1 rfl rfl) trivial ⟨rfl, congrArg (Value.int .i64) (by first | (exfalso; omega) | (unfold regKP; repeat first | rfl | rw [if_pos (by omega)] | rw [if_neg (by omega)])), rfl⟩
def kindP (w : Nat) : Nat :=
  if w % 128 = 55 then 1 else if w % 128 = 23 then 2 else if w % 128 = 111 then 3 else
  if w % 128 = 103 then (if w / 2 ^ 12 % 2 ^ 3 = 0 then 4 else systemP w) else
  if w % 128 = 99 then branchP (w / 2 ^ 12 % 2 ^ 3) else if w % 128 = 3 then loadP (w / 2 ^ 12 % 2 ^ 3) else if w % 128 = 35 then storeP (w / 2 ^ 12 % 2 ^ 3) else
  if w % 128 = 19 then immKP (w / 2 ^ 12 % 2 ^ 3) (w / 2 ^ 25 % 2 ^ 7) else if w % 128 = 51 then regKP (w / 2 ^ 12 % 2 ^ 3) (w / 2 ^ 25 % 2 ^ 7) else
  if w % 128 = 15 then (if w / 2 ^ 12 % 2 ^ 3 < 2 then 46 + w / 2 ^ 12 % 2 ^ 3 else systemP w) else systemP w
theorem kindOf_spec (w : Nat) (hw : w < 4294967296) : Spec Try.prog 83 #[.int .u32 w] (fun _ => True) [] (fun ρ ρ' v L => ρ' = ρ ∧ v = .int .i64 ((kindP w : Nat) : Int) ∧ L = []) := by
  refine Spec.of 51 Try.func83 rfl Try.ntmps83 [(0, _)] rfl rfl ?_
  intro cx ρ hr h0
  have hm : bitsB .and .u32 (w : Int) ((127 : Nat) : Int) = ((w % 128 : Nat) : Int) := by rw [bits_and32 hw (by omega), show 127 = 2 ^ 7 - 1 from rfl, Nat.and_two_pow_sub_one_eq_mod]
  refine Cd.seq fun K58 hK58 => ?_
  refine Cd.plain [(0, false)] rfl rfl ?_
  refine Jp.y 2 rfl (want_all rfl) rfl rfl Kp.true (Y.assign rfl rfl) ?_
  refine Jp.done hK58 ?_
  refine Cd.seq fun K59 hK59 => ?_
  refine Cd.plain [(0, false), (1, false), (2, false), (3, false), (4, false), (5, false)] rfl rfl ?_
  refine Jp.y 5 rfl (want_all rfl) rfl rfl Kp.true (Y.move rfl rfl) ?_
  refine Jp.call [] [] (field_spec w 12 3 hw (by omega) (by omega)) 6 rfl (want_all rfl) rfl rfl (Runs.fn rfl Try.call84 rfl) (by decide) (by decide) rfl trivial ?_
  rintro v1 ρ1 L1 ⟨rfl, rfl, rfl⟩
  refine ⟨rfl, fun hle1 => ⟨Kp.true, ?_⟩⟩
  refine Jp.y 7 rfl (want_all rfl) rfl rfl Kp.true (Y.move rfl rfl) ?_
  refine Jp.call [] [] (field_spec w 25 7 hw (by omega) (by omega)) 8 rfl (want_all rfl) rfl rfl (Runs.fn rfl Try.call84 rfl) (by decide) (by decide) rfl trivial ?_
  rintro v2 ρ2 L2 ⟨rfl, rfl, rfl⟩
  refine ⟨rfl, fun hle2 => ⟨Kp.true, ?_⟩⟩
  obtain ⟨f, hf⟩ : ∃ f, w / 2 ^ 12 % 2 ^ 3 = f := ⟨_, rfl⟩
  obtain ⟨top, ht⟩ : ∃ top, w / 2 ^ 25 % 2 ^ 7 = top := ⟨_, rfl⟩
  obtain ⟨c, hc⟩ : ∃ c, w % 128 = c := ⟨_, rfl⟩
  have hf8 : f < 8 := by rw [← hf]; exact Nat.mod_lt _ (by decide)
  have ht8 : top < 128 := by rw [← ht]; exact Nat.mod_lt _ (by decide)
  have hK : kindP w = if c = 55 then 1 else if c = 23 then 2 else if c = 111 then 3 else
      if c = 103 then (if f = 0 then 4 else systemP w) else
      if c = 99 then branchP f else if c = 3 then loadP f else if c = 35 then storeP f else
      if c = 19 then immKP f top else if c = 51 then regKP f top else
      if c = 15 then (if f < 2 then 46 + f else systemP w) else systemP w := by rw [← hf, ← ht, ← hc]; rfl
  rw [hf, ht]
  rw [hc] at hm
  refine Jp.y 3 rfl (want_all rfl) rfl rfl Kp.true (Y.assign rfl rfl) ?_
  refine Jp.y 4 rfl (want_all rfl) rfl rfl Kp.true (Y.assign rfl rfl) ?_
  refine Jp.done hK59 ?_
  refine Cd.seq fun K60 hK60 => ?_
  refine Cd.seq fun K61 hK61 => ?_
  refine Cd.plain [(0, false), (1, false)] rfl rfl ?_
  refine Jp.y 9 rfl (want_all rfl) rfl rfl Kp.true (Y.move rfl rfl) ?_
  refine Jp.y 10 rfl (want_all rfl) rfl rfl Kp.true (Y.bits rfl rfl rfl rfl) ?_
  refine Jp.done hK61 ?_
  refine Cd.block ?_
  refine Cd.seq fun K62 hK62 => ?_
  refine Cd.plain [(0, false), (1, false)] rfl rfl ?_
  refine Jp.slot 10 rfl (show _ = Value.int .u32 (c : Int) from congrArg (Value.int .u32) hm) ?_
  refine Jp.y 12 rfl (want_all rfl) rfl rfl Kp.true (Y.eql rfl rfl rfl) ?_
  refine Jp.y 11 rfl (want_all rfl) rfl rfl Kp.true (Y.assign rfl rfl) ?_
  refine Jp.done hK62 ?_
  refine Cd.cond rfl (fun g11 => ?_) (fun g11 => ?_)
  · skip
    try simp only [decide_eq_false_iff_not, decide_eq_true_eq, Int.not_lt, Int.not_le, Bool.not_eq_false, Bool.not_eq_true, Bool.not_true, Bool.not_false, Bool.not_eq_true', Bool.not_eq_false', beq_eq_false_iff_ne, ne_eq, beq_iff_eq, bne_iff_ne, bne_eq_false_iff_eq, Classical.not_not] at g11
    refine Cd.seq fun K63 hK63 => ?_
    refine Cd.plain [(0, false)] rfl rfl ?_
    refine Jp.y 2 rfl (want_all rfl) rfl rfl Kp.true (Y.assign rfl rfl) ?_
    refine Jp.done hK63 ?_
    refine Cd.ret [] rfl (res1 rfl rfl) trivial ⟨rfl, congrArg (Value.int .i64) (by first | (exfalso; omega) | (rw [hK]; repeat first | rfl | omega | rw [if_pos (by omega)] | rw [if_neg (by omega)])), rfl⟩
  · skip
    try simp only [decide_eq_false_iff_not, decide_eq_true_eq, Int.not_lt, Int.not_le, Bool.not_eq_false, Bool.not_eq_true, Bool.not_true, Bool.not_false, Bool.not_eq_true', Bool.not_eq_false', beq_eq_false_iff_ne, ne_eq, beq_iff_eq, bne_iff_ne, bne_eq_false_iff_eq, Classical.not_not] at g11
    refine Cd.seq fun K64 hK64 => ?_
    refine Cd.plain [(0, false), (1, false)] rfl rfl ?_
    refine Jp.y 14 rfl (want_all rfl) rfl rfl Kp.true (Y.eql rfl rfl rfl) ?_
    refine Jp.y 13 rfl (want_all rfl) rfl rfl Kp.true (Y.assign rfl rfl) ?_
    refine Jp.done hK64 ?_
    refine Cd.cond rfl (fun g13 => ?_) (fun g13 => ?_)
    · skip
      try simp only [decide_eq_false_iff_not, decide_eq_true_eq, Int.not_lt, Int.not_le, Bool.not_eq_false, Bool.not_eq_true, Bool.not_true, Bool.not_false, Bool.not_eq_true', Bool.not_eq_false', beq_eq_false_iff_ne, ne_eq, beq_iff_eq, bne_iff_ne, bne_eq_false_iff_eq, Classical.not_not] at g13
      refine Cd.seq fun K65 hK65 => ?_
      refine Cd.plain [(0, false)] rfl rfl ?_
      refine Jp.y 2 rfl (want_all rfl) rfl rfl Kp.true (Y.assign rfl rfl) ?_
      refine Jp.done hK65 ?_
      refine Cd.ret [] rfl (res1 rfl rfl) trivial ⟨rfl, congrArg (Value.int .i64) (by first | (exfalso; omega) | (rw [hK]; repeat first | rfl | omega | rw [if_pos (by omega)] | rw [if_neg (by omega)])), rfl⟩
    · skip
      try simp only [decide_eq_false_iff_not, decide_eq_true_eq, Int.not_lt, Int.not_le, Bool.not_eq_false, Bool.not_eq_true, Bool.not_true, Bool.not_false, Bool.not_eq_true', Bool.not_eq_false', beq_eq_false_iff_ne, ne_eq, beq_iff_eq, bne_iff_ne, bne_eq_false_iff_eq, Classical.not_not] at g13
      refine Cd.seq fun K66 hK66 => ?_
      refine Cd.plain [(0, false), (1, false)] rfl rfl ?_
      refine Jp.y 16 rfl (want_all rfl) rfl rfl Kp.true (Y.eql rfl rfl rfl) ?_
      refine Jp.y 15 rfl (want_all rfl) rfl rfl Kp.true (Y.assign rfl rfl) ?_
      refine Jp.done hK66 ?_
      refine Cd.cond rfl (fun g15 => ?_) (fun g15 => ?_)
      · skip
        try simp only [decide_eq_false_iff_not, decide_eq_true_eq, Int.not_lt, Int.not_le, Bool.not_eq_false, Bool.not_eq_true, Bool.not_true, Bool.not_false, Bool.not_eq_true', Bool.not_eq_false', beq_eq_false_iff_ne, ne_eq, beq_iff_eq, bne_iff_ne, bne_eq_false_iff_eq, Classical.not_not] at g15
        refine Cd.seq fun K67 hK67 => ?_
        refine Cd.plain [(0, false)] rfl rfl ?_
        refine Jp.y 2 rfl (want_all rfl) rfl rfl Kp.true (Y.assign rfl rfl) ?_
        refine Jp.done hK67 ?_
        refine Cd.ret [] rfl (res1 rfl rfl) trivial ⟨rfl, congrArg (Value.int .i64) (by first | (exfalso; omega) | (rw [hK]; repeat first | rfl | omega | rw [if_pos (by omega)] | rw [if_neg (by omega)])), rfl⟩
      · skip
        try simp only [decide_eq_false_iff_not, decide_eq_true_eq, Int.not_lt, Int.not_le, Bool.not_eq_false, Bool.not_eq_true, Bool.not_true, Bool.not_false, Bool.not_eq_true', Bool.not_eq_false', beq_eq_false_iff_ne, ne_eq, beq_iff_eq, bne_iff_ne, bne_eq_false_iff_eq, Classical.not_not] at g15
        refine Cd.seq fun K68 hK68 => ?_
        refine Cd.plain [(0, false), (1, false)] rfl rfl ?_
        refine Jp.y 18 rfl (want_all rfl) rfl rfl Kp.true (Y.eql rfl rfl rfl) ?_
        refine Jp.y 17 rfl (want_all rfl) rfl rfl Kp.true (Y.assign rfl rfl) ?_
        refine Jp.done hK68 ?_
        refine Cd.cond rfl (fun g17 => ?_) (fun g17 => ?_)
        · skip
          try simp only [decide_eq_false_iff_not, decide_eq_true_eq, Int.not_lt, Int.not_le, Bool.not_eq_false, Bool.not_eq_true, Bool.not_true, Bool.not_false, Bool.not_eq_true', Bool.not_eq_false', beq_eq_false_iff_ne, ne_eq, beq_iff_eq, bne_iff_ne, bne_eq_false_iff_eq, Classical.not_not] at g17
          refine Cd.seq fun K69 hK69 => ?_
          refine Cd.plain [(0, false), (1, false)] rfl rfl ?_
          refine Jp.y 19 rfl (want_all rfl) rfl rfl Kp.true (Y.move rfl rfl) ?_
          refine Jp.y 20 rfl (want_all rfl) rfl rfl Kp.true (Y.eql rfl rfl rfl) ?_
          refine Jp.done hK69 ?_
          refine Cd.cond rfl (fun g20 => ?_) (fun g20 => ?_)
          · skip
            try simp only [decide_eq_false_iff_not, decide_eq_true_eq, Int.not_lt, Int.not_le, Bool.not_eq_false, Bool.not_eq_true, Bool.not_true, Bool.not_false, Bool.not_eq_true', Bool.not_eq_false', beq_eq_false_iff_ne, ne_eq, beq_iff_eq, bne_iff_ne, bne_eq_false_iff_eq, Classical.not_not] at g20
            refine Cd.seq fun K70 hK70 => ?_
            refine Cd.plain [(0, false)] rfl rfl ?_
            refine Jp.y 2 rfl (want_all rfl) rfl rfl Kp.true (Y.assign rfl rfl) ?_
            refine Jp.done hK70 ?_
            refine Cd.ret [] rfl (res1 rfl rfl) trivial ⟨rfl, congrArg (Value.int .i64) (by first | (exfalso; omega) | (rw [hK]; repeat first | rfl | omega | rw [if_pos (by omega)] | rw [if_neg (by omega)])), rfl⟩
          · skip
            try simp only [decide_eq_false_iff_not, decide_eq_true_eq, Int.not_lt, Int.not_le, Bool.not_eq_false, Bool.not_eq_true, Bool.not_true, Bool.not_false, Bool.not_eq_true', Bool.not_eq_false', beq_eq_false_iff_ne, ne_eq, beq_iff_eq, bne_iff_ne, bne_eq_false_iff_eq, Classical.not_not] at g20
            refine Cd.over rfl hK60 ?_
            refine Cd.seq fun K71 hK71 => ?_
            refine Cd.plain [(0, false), (1, false), (2, false)] rfl rfl ?_
            refine Jp.y 49 rfl (want_all rfl) rfl rfl Kp.true (Y.move rfl rfl) ?_
            refine Jp.call [] [] (systemK_spec w) 50 rfl (want_all rfl) rfl rfl (Runs.fn rfl Try.call115 rfl) (by decide) (by decide) rfl trivial ?_
            rintro v101 ρ101 L101 ⟨rfl, rfl, rfl⟩
            refine ⟨rfl, fun hle101 => ⟨Kp.true, ?_⟩⟩
            refine Jp.y 2 rfl (want_all rfl) rfl rfl Kp.true (Y.assign rfl rfl) ?_
            refine Jp.done hK71 ?_
            refine Cd.ret [] rfl (res1 rfl rfl) trivial ⟨rfl, congrArg (Value.int .i64) (by first | (exfalso; omega) | (rw [hK]; repeat first | rfl | omega | rw [if_pos (by omega)] | rw [if_neg (by omega)])), rfl⟩
        · skip
          try simp only [decide_eq_false_iff_not, decide_eq_true_eq, Int.not_lt, Int.not_le, Bool.not_eq_false, Bool.not_eq_true, Bool.not_true, Bool.not_false, Bool.not_eq_true', Bool.not_eq_false', beq_eq_false_iff_ne, ne_eq, beq_iff_eq, bne_iff_ne, bne_eq_false_iff_eq, Classical.not_not] at g17
          refine Cd.seq fun K72 hK72 => ?_
          refine Cd.plain [(0, false), (1, false)] rfl rfl ?_
          refine Jp.y 22 rfl (want_all rfl) rfl rfl Kp.true (Y.eql rfl rfl rfl) ?_
          refine Jp.y 21 rfl (want_all rfl) rfl rfl Kp.true (Y.assign rfl rfl) ?_
          refine Jp.done hK72 ?_
          refine Cd.cond rfl (fun g21 => ?_) (fun g21 => ?_)
          · skip
            try simp only [decide_eq_false_iff_not, decide_eq_true_eq, Int.not_lt, Int.not_le, Bool.not_eq_false, Bool.not_eq_true, Bool.not_true, Bool.not_false, Bool.not_eq_true', Bool.not_eq_false', beq_eq_false_iff_ne, ne_eq, beq_iff_eq, bne_iff_ne, bne_eq_false_iff_eq, Classical.not_not] at g21
            refine Cd.seq fun K73 hK73 => ?_
            refine Cd.plain [(0, false), (1, false), (2, false)] rfl rfl ?_
            refine Jp.y 23 rfl (want_all rfl) rfl rfl Kp.true (Y.move rfl rfl) ?_
            refine Jp.call [] [] (branchK_spec f hf8) 24 rfl (want_all rfl) rfl rfl (Runs.fn rfl Try.call110 rfl) (by decide) (by decide) rfl trivial ?_
            rintro v102 ρ102 L102 ⟨rfl, rfl, rfl⟩
            refine ⟨rfl, fun hle102 => ⟨Kp.true, ?_⟩⟩
            refine Jp.y 2 rfl (want_all rfl) rfl rfl Kp.true (Y.assign rfl rfl) ?_
            refine Jp.done hK73 ?_
            refine Cd.ret [] rfl (res1 rfl rfl) trivial ⟨rfl, congrArg (Value.int .i64) (by first | (exfalso; omega) | (rw [hK]; repeat first | rfl | omega | rw [if_pos (by omega)] | rw [if_neg (by omega)])), rfl⟩
          · skip
            try simp only [decide_eq_false_iff_not, decide_eq_true_eq, Int.not_lt, Int.not_le, Bool.not_eq_false, Bool.not_eq_true, Bool.not_true, Bool.not_false, Bool.not_eq_true', Bool.not_eq_false', beq_eq_false_iff_ne, ne_eq, beq_iff_eq, bne_iff_ne, bne_eq_false_iff_eq, Classical.not_not] at g21
            refine Cd.seq fun K74 hK74 => ?_
            refine Cd.plain [(0, false), (1, false)] rfl rfl ?_
            refine Jp.y 26 rfl (want_all rfl) rfl rfl Kp.true (Y.eql rfl rfl rfl) ?_
            refine Jp.y 25 rfl (want_all rfl) rfl rfl Kp.true (Y.assign rfl rfl) ?_
            refine Jp.done hK74 ?_
            refine Cd.cond rfl (fun g25 => ?_) (fun g25 => ?_)
            · skip
              try simp only [decide_eq_false_iff_not, decide_eq_true_eq, Int.not_lt, Int.not_le, Bool.not_eq_false, Bool.not_eq_true, Bool.not_true, Bool.not_false, Bool.not_eq_true', Bool.not_eq_false', beq_eq_false_iff_ne, ne_eq, beq_iff_eq, bne_iff_ne, bne_eq_false_iff_eq, Classical.not_not] at g25
              refine Cd.seq fun K75 hK75 => ?_
              refine Cd.plain [(0, false), (1, false), (2, false)] rfl rfl ?_
              refine Jp.y 27 rfl (want_all rfl) rfl rfl Kp.true (Y.move rfl rfl) ?_
              refine Jp.call [] [] (loadK_spec f hf8) 28 rfl (want_all rfl) rfl rfl (Runs.fn rfl Try.call111 rfl) (by decide) (by decide) rfl trivial ?_
              rintro v103 ρ103 L103 ⟨rfl, rfl, rfl⟩
              refine ⟨rfl, fun hle103 => ⟨Kp.true, ?_⟩⟩
              refine Jp.y 2 rfl (want_all rfl) rfl rfl Kp.true (Y.assign rfl rfl) ?_
              refine Jp.done hK75 ?_
              refine Cd.ret [] rfl (res1 rfl rfl) trivial ⟨rfl, congrArg (Value.int .i64) (by first | (exfalso; omega) | (rw [hK]; repeat first | rfl | omega | rw [if_pos (by omega)] | rw [if_neg (by omega)])), rfl⟩
            · skip
              try simp only [decide_eq_false_iff_not, decide_eq_true_eq, Int.not_lt, Int.not_le, Bool.not_eq_false, Bool.not_eq_true, Bool.not_true, Bool.not_false, Bool.not_eq_true', Bool.not_eq_false', beq_eq_false_iff_ne, ne_eq, beq_iff_eq, bne_iff_ne, bne_eq_false_iff_eq, Classical.not_not] at g25
              refine Cd.seq fun K76 hK76 => ?_
              refine Cd.plain [(0, false), (1, false)] rfl rfl ?_
              refine Jp.y 30 rfl (want_all rfl) rfl rfl Kp.true (Y.eql rfl rfl rfl) ?_
              refine Jp.y 29 rfl (want_all rfl) rfl rfl Kp.true (Y.assign rfl rfl) ?_
              refine Jp.done hK76 ?_
              refine Cd.cond rfl (fun g29 => ?_) (fun g29 => ?_)
              · skip
                try simp only [decide_eq_false_iff_not, decide_eq_true_eq, Int.not_lt, Int.not_le, Bool.not_eq_false, Bool.not_eq_true, Bool.not_true, Bool.not_false, Bool.not_eq_true', Bool.not_eq_false', beq_eq_false_iff_ne, ne_eq, beq_iff_eq, bne_iff_ne, bne_eq_false_iff_eq, Classical.not_not] at g29
                refine Cd.seq fun K77 hK77 => ?_
                refine Cd.plain [(0, false), (1, false), (2, false)] rfl rfl ?_
                refine Jp.y 31 rfl (want_all rfl) rfl rfl Kp.true (Y.move rfl rfl) ?_
                refine Jp.call [] [] (storeK_spec f hf8) 32 rfl (want_all rfl) rfl rfl (Runs.fn rfl Try.call112 rfl) (by decide) (by decide) rfl trivial ?_
                rintro v104 ρ104 L104 ⟨rfl, rfl, rfl⟩
                refine ⟨rfl, fun hle104 => ⟨Kp.true, ?_⟩⟩
                refine Jp.y 2 rfl (want_all rfl) rfl rfl Kp.true (Y.assign rfl rfl) ?_
                refine Jp.done hK77 ?_
                refine Cd.ret [] rfl (res1 rfl rfl) trivial ⟨rfl, congrArg (Value.int .i64) (by first | (exfalso; omega) | (rw [hK]; repeat first | rfl | omega | rw [if_pos (by omega)] | rw [if_neg (by omega)])), rfl⟩
              · skip
                try simp only [decide_eq_false_iff_not, decide_eq_true_eq, Int.not_lt, Int.not_le, Bool.not_eq_false, Bool.not_eq_true, Bool.not_true, Bool.not_false, Bool.not_eq_true', Bool.not_eq_false', beq_eq_false_iff_ne, ne_eq, beq_iff_eq, bne_iff_ne, bne_eq_false_iff_eq, Classical.not_not] at g29
                refine Cd.seq fun K78 hK78 => ?_
                refine Cd.plain [(0, false), (1, false)] rfl rfl ?_
                refine Jp.y 34 rfl (want_all rfl) rfl rfl Kp.true (Y.eql rfl rfl rfl) ?_
                refine Jp.y 33 rfl (want_all rfl) rfl rfl Kp.true (Y.assign rfl rfl) ?_
                refine Jp.done hK78 ?_
                refine Cd.cond rfl (fun g33 => ?_) (fun g33 => ?_)
                · skip
                  try simp only [decide_eq_false_iff_not, decide_eq_true_eq, Int.not_lt, Int.not_le, Bool.not_eq_false, Bool.not_eq_true, Bool.not_true, Bool.not_false, Bool.not_eq_true', Bool.not_eq_false', beq_eq_false_iff_ne, ne_eq, beq_iff_eq, bne_iff_ne, bne_eq_false_iff_eq, Classical.not_not] at g33
                  refine Cd.seq fun K79 hK79 => ?_
                  refine Cd.plain [(0, false), (1, false), (2, false), (3, false)] rfl rfl ?_
                  refine Jp.y 35 rfl (want_all rfl) rfl rfl Kp.true (Y.move rfl rfl) ?_
                  refine Jp.y 36 rfl (want_all rfl) rfl rfl Kp.true (Y.move rfl rfl) ?_
                  refine Jp.call [] [] (immK_spec f top hf8) 37 rfl (want_all rfl) rfl rfl (Runs.fn rfl Try.call113 rfl) (by decide) (by decide) rfl trivial ?_
                  rintro v105 ρ105 L105 ⟨rfl, rfl, rfl⟩
                  refine ⟨rfl, fun hle105 => ⟨Kp.true, ?_⟩⟩
                  refine Jp.y 2 rfl (want_all rfl) rfl rfl Kp.true (Y.assign rfl rfl) ?_
                  refine Jp.done hK79 ?_
                  refine Cd.ret [] rfl (res1 rfl rfl) trivial ⟨rfl, congrArg (Value.int .i64) (by first | (exfalso; omega) | (rw [hK]; repeat first | rfl | omega | rw [if_pos (by omega)] | rw [if_neg (by omega)])), rfl⟩
                · skip
                  try simp only [decide_eq_false_iff_not, decide_eq_true_eq, Int.not_lt, Int.not_le, Bool.not_eq_false, Bool.not_eq_true, Bool.not_true, Bool.not_false, Bool.not_eq_true', Bool.not_eq_false', beq_eq_false_iff_ne, ne_eq, beq_iff_eq, bne_iff_ne, bne_eq_false_iff_eq, Classical.not_not] at g33
                  refine Cd.seq fun K80 hK80 => ?_
                  refine Cd.plain [(0, false), (1, false)] rfl rfl ?_
                  refine Jp.y 39 rfl (want_all rfl) rfl rfl Kp.true (Y.eql rfl rfl rfl) ?_
                  refine Jp.y 38 rfl (want_all rfl) rfl rfl Kp.true (Y.assign rfl rfl) ?_
                  refine Jp.done hK80 ?_
                  refine Cd.cond rfl (fun g38 => ?_) (fun g38 => ?_)
                  · skip
                    try simp only [decide_eq_false_iff_not, decide_eq_true_eq, Int.not_lt, Int.not_le, Bool.not_eq_false, Bool.not_eq_true, Bool.not_true, Bool.not_false, Bool.not_eq_true', Bool.not_eq_false', beq_eq_false_iff_ne, ne_eq, beq_iff_eq, bne_iff_ne, bne_eq_false_iff_eq, Classical.not_not] at g38
                    refine Cd.seq fun K81 hK81 => ?_
                    refine Cd.plain [(0, false), (1, false), (2, false), (3, false)] rfl rfl ?_
                    refine Jp.y 40 rfl (want_all rfl) rfl rfl Kp.true (Y.move rfl rfl) ?_
                    refine Jp.y 41 rfl (want_all rfl) rfl rfl Kp.true (Y.move rfl rfl) ?_
                    refine Jp.call [] [] (regK_spec f top hf8 ht8) 42 rfl (want_all rfl) rfl rfl (Runs.fn rfl Try.call114 rfl) (by decide) (by decide) rfl trivial ?_
                    rintro v106 ρ106 L106 ⟨rfl, rfl, rfl⟩
                    refine ⟨rfl, fun hle106 => ⟨Kp.true, ?_⟩⟩
                    refine Jp.y 2 rfl (want_all rfl) rfl rfl Kp.true (Y.assign rfl rfl) ?_
                    refine Jp.done hK81 ?_
                    refine Cd.ret [] rfl (res1 rfl rfl) trivial ⟨rfl, congrArg (Value.int .i64) (by first | (exfalso; omega) | (rw [hK]; repeat first | rfl | omega | rw [if_pos (by omega)] | rw [if_neg (by omega)])), rfl⟩
                  · skip
                    try simp only [decide_eq_false_iff_not, decide_eq_true_eq, Int.not_lt, Int.not_le, Bool.not_eq_false, Bool.not_eq_true, Bool.not_true, Bool.not_false, Bool.not_eq_true', Bool.not_eq_false', beq_eq_false_iff_ne, ne_eq, beq_iff_eq, bne_iff_ne, bne_eq_false_iff_eq, Classical.not_not] at g38
                    refine Cd.seq fun K82 hK82 => ?_
                    refine Cd.plain [(0, false), (1, false)] rfl rfl ?_
                    refine Jp.y 44 rfl (want_all rfl) rfl rfl Kp.true (Y.eql rfl rfl rfl) ?_
                    refine Jp.y 43 rfl (want_all rfl) rfl rfl Kp.true (Y.assign rfl rfl) ?_
                    refine Jp.done hK82 ?_
                    refine Cd.cond rfl (fun g43 => ?_) (fun g43 => ?_)
                    · skip
                      try simp only [decide_eq_false_iff_not, decide_eq_true_eq, Int.not_lt, Int.not_le, Bool.not_eq_false, Bool.not_eq_true, Bool.not_true, Bool.not_false, Bool.not_eq_true', Bool.not_eq_false', beq_eq_false_iff_ne, ne_eq, beq_iff_eq, bne_iff_ne, bne_eq_false_iff_eq, Classical.not_not] at g43
                      refine Cd.seq fun K83 hK83 => ?_
                      refine Cd.plain [(0, false), (1, false)] rfl rfl ?_
                      refine Jp.y 45 rfl (want_all rfl) rfl rfl Kp.true (Y.move rfl rfl) ?_
                      refine Jp.y 46 rfl (want_all rfl) rfl rfl Kp.true (Y.lss rfl rfl rfl) ?_
                      refine Jp.done hK83 ?_
                      refine Cd.cond rfl (fun g46 => ?_) (fun g46 => ?_)
                      · skip
                        try simp only [decide_eq_false_iff_not, decide_eq_true_eq, Int.not_lt, Int.not_le, Bool.not_eq_false, Bool.not_eq_true, Bool.not_true, Bool.not_false, Bool.not_eq_true', Bool.not_eq_false', beq_eq_false_iff_ne, ne_eq, beq_iff_eq, bne_iff_ne, bne_eq_false_iff_eq, Classical.not_not] at g46
                        refine Cd.seq fun K84 hK84 => ?_
                        refine Cd.plain [(0, false), (1, false), (2, false)] rfl rfl ?_
                        refine Jp.y 47 rfl (want_all rfl) rfl rfl Kp.true (Y.move rfl rfl) ?_
                        refine Jp.y 48 rfl (want_all rfl) rfl rfl Kp.true (Y.add_ rfl rfl rfl (by first | exact wrap_i64 (by omega) (by omega) | rfl)) ?_
                        refine Jp.y 2 rfl (want_all rfl) rfl rfl Kp.true (Y.assign rfl rfl) ?_
                        refine Jp.done hK84 ?_
                        refine Cd.ret [] rfl (res1 rfl rfl) trivial ⟨rfl, congrArg (Value.int .i64) (by first | (exfalso; omega) | (rw [hK]; repeat first | rfl | omega | rw [if_pos (by omega)] | rw [if_neg (by omega)])), rfl⟩
                      · skip
                        try simp only [decide_eq_false_iff_not, decide_eq_true_eq, Int.not_lt, Int.not_le, Bool.not_eq_false, Bool.not_eq_true, Bool.not_true, Bool.not_false, Bool.not_eq_true', Bool.not_eq_false', beq_eq_false_iff_ne, ne_eq, beq_iff_eq, bne_iff_ne, bne_eq_false_iff_eq, Classical.not_not] at g46
                        refine Cd.over rfl hK60 ?_
                        refine Cd.seq fun K85 hK85 => ?_
                        refine Cd.plain [(0, false), (1, false), (2, false)] rfl rfl ?_
                        refine Jp.y 49 rfl (want_all rfl) rfl rfl Kp.true (Y.move rfl rfl) ?_
                        refine Jp.call [] [] (systemK_spec w) 50 rfl (want_all rfl) rfl rfl (Runs.fn rfl Try.call115 rfl) (by decide) (by decide) rfl trivial ?_
                        rintro v107 ρ107 L107 ⟨rfl, rfl, rfl⟩
                        refine ⟨rfl, fun hle107 => ⟨Kp.true, ?_⟩⟩
                        refine Jp.y 2 rfl (want_all rfl) rfl rfl Kp.true (Y.assign rfl rfl) ?_
                        refine Jp.done hK85 ?_
                        refine Cd.ret [] rfl (res1 rfl rfl) trivial ⟨rfl, congrArg (Value.int .i64) (by first | (exfalso; omega) | (rw [hK]; repeat first | rfl | omega | rw [if_pos (by omega)] | rw [if_neg (by omega)])), rfl⟩
                    · skip
                      try simp only [decide_eq_false_iff_not, decide_eq_true_eq, Int.not_lt, Int.not_le, Bool.not_eq_false, Bool.not_eq_true, Bool.not_true, Bool.not_false, Bool.not_eq_true', Bool.not_eq_false', beq_eq_false_iff_ne, ne_eq, beq_iff_eq, bne_iff_ne, bne_eq_false_iff_eq, Classical.not_not] at g43
                      refine Cd.over rfl hK60 ?_
                      refine Cd.seq fun K86 hK86 => ?_
                      refine Cd.plain [(0, false), (1, false), (2, false)] rfl rfl ?_
                      refine Jp.y 49 rfl (want_all rfl) rfl rfl Kp.true (Y.move rfl rfl) ?_
                      refine Jp.call [] [] (systemK_spec w) 50 rfl (want_all rfl) rfl rfl (Runs.fn rfl Try.call115 rfl) (by decide) (by decide) rfl trivial ?_
                      rintro v108 ρ108 L108 ⟨rfl, rfl, rfl⟩
                      refine ⟨rfl, fun hle108 => ⟨Kp.true, ?_⟩⟩
                      refine Jp.y 2 rfl (want_all rfl) rfl rfl Kp.true (Y.assign rfl rfl) ?_
                      refine Jp.done hK86 ?_
                      refine Cd.ret [] rfl (res1 rfl rfl) trivial ⟨rfl, congrArg (Value.int .i64) (by first | (exfalso; omega) | (rw [hK]; repeat first | rfl | omega | rw [if_pos (by omega)] | rw [if_neg (by omega)])), rfl⟩
end Go.Proofs.Ytkjeidoplonkjaa
