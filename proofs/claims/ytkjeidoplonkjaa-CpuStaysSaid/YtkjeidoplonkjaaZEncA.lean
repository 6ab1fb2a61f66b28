import Derived.Test.YtkjeidoplonkjaaZCpuE
set_option linter.unusedVariables false
set_option linter.unusedSimpArgs false
set_option maxRecDepth 100000
namespace Go.Proofs.Ytkjeidoplonkjaa
open Go
def placeP (v : Int) (n : Nat) : Nat := u32 ((u32 v * 2 ^ n : Nat) : Int)
theorem placeP_lt (v : Int) (n : Nat) : placeP v n < 4294967296 := u32_lt _
theorem place_spec (v : Int) (n : Nat) (hn : n < 32) : Spec Try.prog 58 #[.int .i64 v, .int .i64 n] (fun _ => True) [] (fun ρ ρ' r L => ρ' = ρ ∧ r = .int .u32 (placeP v n : Int) ∧ L = []) := by
  refine Spec.of 9 Try.func58 rfl Try.ntmps58 [(0, _), (1, _)] rfl rfl ?_
  intro cx ρ hr h0
  refine Cd.seq fun K1 hK1 => ?_
  refine Cd.plain [(0, false)] rfl rfl ?_
  refine Jp.y 4 rfl (want_all rfl) rfl rfl Kp.true (Y.assign rfl rfl) ?_
  refine Jp.done hK1 ?_
  refine Cd.seq fun K2 hK2 => ?_
  refine Cd.plain [(0, false), (1, false), (2, false), (3, false), (4, false)] rfl rfl ?_
  refine Jp.y 5 rfl (want_all rfl) rfl rfl Kp.true (Y.move rfl rfl) ?_
  refine Jp.y 6 rfl (want_all rfl) rfl rfl Kp.true (Y.conv_ rfl rfl Try.underlying3 Try.underlying25 (by first | exact wrap_u32 (by omega) (by omega) | rfl)) ?_
  refine Jp.y 7 rfl (want_all rfl) rfl rfl Kp.true (Y.move rfl rfl) ?_
  refine Jp.slot 6 rfl (show _ = Value.int .u32 (u32 v : Int) from congrArg (Value.int .u32) (wrap_u v)) ?_
  refine Jp.y 8 rfl (want_all rfl) rfl rfl Kp.true (Y.shl rfl rfl rfl (by first | decide | omega)) ?_
  refine Jp.y 4 rfl (want_all rfl) rfl rfl Kp.true (Y.assign rfl rfl) ?_
  refine Jp.done hK2 ?_
  refine Cd.ret [] rfl (res1 rfl rfl) trivial ⟨rfl, congrArg (Value.int .u32) (shl_u (u32 v) n hn), rfl⟩
def codeT : List (Nat × Nat × Nat) := [(0, 0, 0), (55, 0, 0), (23, 0, 0), (111, 0, 0), (103, 0, 0),
  (99, 0, 0), (99, 1, 0), (99, 4, 0), (99, 5, 0), (99, 6, 0), (99, 7, 0), (3, 0, 0), (3, 1, 0), (3, 2, 0), (3, 4, 0), (3, 5, 0), (35, 0, 0), (35, 1, 0), (35, 2, 0),
  (19, 0, 0), (19, 2, 0), (19, 3, 0), (19, 4, 0), (19, 6, 0), (19, 7, 0), (19, 1, 0), (19, 5, 0), (19, 5, 32),
  (51, 0, 0), (51, 0, 32), (51, 1, 0), (51, 2, 0), (51, 3, 0), (51, 4, 0), (51, 5, 0), (51, 5, 32), (51, 6, 0), (51, 7, 0),
  (51, 0, 1), (51, 1, 1), (51, 2, 1), (51, 3, 1), (51, 4, 1), (51, 5, 1), (51, 6, 1), (51, 7, 1)]
def codeP (op : Nat) : Nat × Nat × Nat := codeT.getD op (0, 0, 0)
def codeV (op : Nat) : Value := .tuple #[.int .i64 ((codeP op).1 : Int), .int .i64 ((codeP op).2.1 : Int), .int .i64 ((codeP op).2.2 : Int)]
theorem code_spec (op : Nat) (h : 1 ≤ op ∧ op ≤ 45) : Spec Try.prog 57 #[.int .i64 op] (fun _ => True) [] (fun ρ ρ' v L => ρ' = ρ ∧ v = codeV op ∧ L = []) := by
  refine Spec.of 67 Try.func57 rfl Try.ntmps57 [(0, _)] rfl rfl ?_
  intro cx ρ hr h0
  refine Cd.seq fun K3 hK3 => ?_
  refine Cd.plain [(0, false), (1, false), (2, false)] rfl rfl ?_
  refine Jp.y 2 rfl (want_all rfl) rfl rfl Kp.true (Y.assign rfl rfl) ?_
  refine Jp.y 3 rfl (want_all rfl) rfl rfl Kp.true (Y.assign rfl rfl) ?_
  refine Jp.y 4 rfl (want_all rfl) rfl rfl Kp.true (Y.assign rfl rfl) ?_
  refine Jp.done hK3 ?_
  refine Cd.seq fun K4 hK4 => ?_
  refine Cd.block ?_
  refine Cd.seq fun K5 hK5 => ?_
  refine Cd.plain [(0, false), (1, false), (2, false)] rfl rfl ?_
  refine Jp.y 6 rfl (want_all rfl) rfl rfl Kp.true (Y.move rfl rfl) ?_
  refine Jp.y 7 rfl (want_all rfl) rfl rfl Kp.true (Y.eql rfl rfl rfl) ?_
  refine Jp.y 5 rfl (want_all rfl) rfl rfl Kp.true (Y.assign rfl rfl) ?_
  refine Jp.done hK5 ?_
  refine Cd.cond rfl (fun g5 => ?_) (fun g5 => ?_)
  · skip
    try simp only [decide_eq_false_iff_not, decide_eq_true_eq, Int.not_lt, Int.not_le, Bool.not_eq_false, Bool.not_eq_true, Bool.not_true, Bool.not_false, Bool.not_eq_true', Bool.not_eq_false', beq_eq_false_iff_ne, ne_eq, beq_iff_eq, bne_iff_ne, bne_eq_false_iff_eq, Classical.not_not] at g5
    refine Cd.seq fun K6 hK6 => ?_
    refine Cd.plain [(0, false), (1, false), (2, false)] rfl rfl ?_
    refine Jp.y 2 rfl (want_all rfl) rfl rfl Kp.true (Y.assign rfl rfl) ?_
    refine Jp.y 3 rfl (want_all rfl) rfl rfl Kp.true (Y.assign rfl rfl) ?_
    refine Jp.y 4 rfl (want_all rfl) rfl rfl Kp.true (Y.assign rfl rfl) ?_
    refine Jp.done hK6 ?_
    refine Cd.ret [] rfl (res3 rfl rfl rfl rfl) trivial ⟨rfl, by
      first
      | (exfalso; omega)
      | (obtain rfl : op = 1 := by omega
         rfl)
      | (obtain rfl : op = 2 := by omega
         rfl)
      | (obtain rfl : op = 3 := by omega
         rfl)
      | (obtain rfl : op = 4 := by omega
         rfl)
      | (rcases (show op = 16 ∨ op = 17 ∨ op = 18 by omega) with rfl | rfl | rfl <;> rfl)
      | (rcases (show op = 38 ∨ op = 39 ∨ op = 40 ∨ op = 41 ∨ op = 42 ∨ op = 43 ∨ op = 44 ∨ op = 45 by omega) with rfl | rfl | rfl | rfl | rfl | rfl | rfl | rfl <;> rfl), rfl⟩
  · skip
    try simp only [decide_eq_false_iff_not, decide_eq_true_eq, Int.not_lt, Int.not_le, Bool.not_eq_false, Bool.not_eq_true, Bool.not_true, Bool.not_false, Bool.not_eq_true', Bool.not_eq_false', beq_eq_false_iff_ne, ne_eq, beq_iff_eq, bne_iff_ne, bne_eq_false_iff_eq, Classical.not_not] at g5
    refine Cd.seq fun K7 hK7 => ?_
    refine Cd.plain [(0, false), (1, false), (2, false)] rfl rfl ?_
    refine Jp.y 9 rfl (want_all rfl) rfl rfl Kp.true (Y.move rfl rfl) ?_
    refine Jp.y 10 rfl (want_all rfl) rfl rfl Kp.true (Y.eql rfl rfl rfl) ?_
    refine Jp.y 8 rfl (want_all rfl) rfl rfl Kp.true (Y.assign rfl rfl) ?_
    refine Jp.done hK7 ?_
    refine Cd.cond rfl (fun g8 => ?_) (fun g8 => ?_)
    · skip
      try simp only [decide_eq_false_iff_not, decide_eq_true_eq, Int.not_lt, Int.not_le, Bool.not_eq_false, Bool.not_eq_true, Bool.not_true, Bool.not_false, Bool.not_eq_true', Bool.not_eq_false', beq_eq_false_iff_ne, ne_eq, beq_iff_eq, bne_iff_ne, bne_eq_false_iff_eq, Classical.not_not] at g8
      refine Cd.seq fun K8 hK8 => ?_
      refine Cd.plain [(0, false), (1, false), (2, false)] rfl rfl ?_
      refine Jp.y 2 rfl (want_all rfl) rfl rfl Kp.true (Y.assign rfl rfl) ?_
      refine Jp.y 3 rfl (want_all rfl) rfl rfl Kp.true (Y.assign rfl rfl) ?_
      refine Jp.y 4 rfl (want_all rfl) rfl rfl Kp.true (Y.assign rfl rfl) ?_
      refine Jp.done hK8 ?_
      refine Cd.ret [] rfl (res3 rfl rfl rfl rfl) trivial ⟨rfl, by
        first
        | (exfalso; omega)
        | (obtain rfl : op = 1 := by omega
           rfl)
        | (obtain rfl : op = 2 := by omega
           rfl)
        | (obtain rfl : op = 3 := by omega
           rfl)
        | (obtain rfl : op = 4 := by omega
           rfl)
        | (rcases (show op = 16 ∨ op = 17 ∨ op = 18 by omega) with rfl | rfl | rfl <;> rfl)
        | (rcases (show op = 38 ∨ op = 39 ∨ op = 40 ∨ op = 41 ∨ op = 42 ∨ op = 43 ∨ op = 44 ∨ op = 45 by omega) with rfl | rfl | rfl | rfl | rfl | rfl | rfl | rfl <;> rfl), rfl⟩
    · skip
      try simp only [decide_eq_false_iff_not, decide_eq_true_eq, Int.not_lt, Int.not_le, Bool.not_eq_false, Bool.not_eq_true, Bool.not_true, Bool.not_false, Bool.not_eq_true', Bool.not_eq_false', beq_eq_false_iff_ne, ne_eq, beq_iff_eq, bne_iff_ne, bne_eq_false_iff_eq, Classical.not_not] at g8
      refine Cd.seq fun K9 hK9 => ?_
      refine Cd.plain [(0, false), (1, false), (2, false)] rfl rfl ?_
      refine Jp.y 12 rfl (want_all rfl) rfl rfl Kp.true (Y.move rfl rfl) ?_
      refine Jp.y 13 rfl (want_all rfl) rfl rfl Kp.true (Y.eql rfl rfl rfl) ?_
      refine Jp.y 11 rfl (want_all rfl) rfl rfl Kp.true (Y.assign rfl rfl) ?_
      refine Jp.done hK9 ?_
      refine Cd.cond rfl (fun g11 => ?_) (fun g11 => ?_)
      · skip
        try simp only [decide_eq_false_iff_not, decide_eq_true_eq, Int.not_lt, Int.not_le, Bool.not_eq_false, Bool.not_eq_true, Bool.not_true, Bool.not_false, Bool.not_eq_true', Bool.not_eq_false', beq_eq_false_iff_ne, ne_eq, beq_iff_eq, bne_iff_ne, bne_eq_false_iff_eq, Classical.not_not] at g11
        refine Cd.seq fun K10 hK10 => ?_
        refine Cd.plain [(0, false), (1, false), (2, false)] rfl rfl ?_
        refine Jp.y 2 rfl (want_all rfl) rfl rfl Kp.true (Y.assign rfl rfl) ?_
        refine Jp.y 3 rfl (want_all rfl) rfl rfl Kp.true (Y.assign rfl rfl) ?_
        refine Jp.y 4 rfl (want_all rfl) rfl rfl Kp.true (Y.assign rfl rfl) ?_
        refine Jp.done hK10 ?_
        refine Cd.ret [] rfl (res3 rfl rfl rfl rfl) trivial ⟨rfl, by
          first
          | (exfalso; omega)
          | (obtain rfl : op = 1 := by omega
             rfl)
          | (obtain rfl : op = 2 := by omega
             rfl)
          | (obtain rfl : op = 3 := by omega
             rfl)
          | (obtain rfl : op = 4 := by omega
             rfl)
          | (rcases (show op = 16 ∨ op = 17 ∨ op = 18 by omega) with rfl | rfl | rfl <;> rfl)
          | (rcases (show op = 38 ∨ op = 39 ∨ op = 40 ∨ op = 41 ∨ op = 42 ∨ op = 43 ∨ op = 44 ∨ op = 45 by omega) with rfl | rfl | rfl | rfl | rfl | rfl | rfl | rfl <;> rfl), rfl⟩
      · skip
        try simp only [decide_eq_false_iff_not, decide_eq_true_eq, Int.not_lt, Int.not_le, Bool.not_eq_false, Bool.not_eq_true, Bool.not_true, Bool.not_false, Bool.not_eq_true', Bool.not_eq_false', beq_eq_false_iff_ne, ne_eq, beq_iff_eq, bne_iff_ne, bne_eq_false_iff_eq, Classical.not_not] at g11
        refine Cd.seq fun K11 hK11 => ?_
        refine Cd.plain [(0, false), (1, false), (2, false)] rfl rfl ?_
        refine Jp.y 15 rfl (want_all rfl) rfl rfl Kp.true (Y.move rfl rfl) ?_
        refine Jp.y 16 rfl (want_all rfl) rfl rfl Kp.true (Y.eql rfl rfl rfl) ?_
        refine Jp.y 14 rfl (want_all rfl) rfl rfl Kp.true (Y.assign rfl rfl) ?_
        refine Jp.done hK11 ?_
        refine Cd.cond rfl (fun g14 => ?_) (fun g14 => ?_)
        · skip
          try simp only [decide_eq_false_iff_not, decide_eq_true_eq, Int.not_lt, Int.not_le, Bool.not_eq_false, Bool.not_eq_true, Bool.not_true, Bool.not_false, Bool.not_eq_true', Bool.not_eq_false', beq_eq_false_iff_ne, ne_eq, beq_iff_eq, bne_iff_ne, bne_eq_false_iff_eq, Classical.not_not] at g14
          refine Cd.seq fun K12 hK12 => ?_
          refine Cd.plain [(0, false), (1, false), (2, false)] rfl rfl ?_
          refine Jp.y 2 rfl (want_all rfl) rfl rfl Kp.true (Y.assign rfl rfl) ?_
          refine Jp.y 3 rfl (want_all rfl) rfl rfl Kp.true (Y.assign rfl rfl) ?_
          refine Jp.y 4 rfl (want_all rfl) rfl rfl Kp.true (Y.assign rfl rfl) ?_
          refine Jp.done hK12 ?_
          refine Cd.ret [] rfl (res3 rfl rfl rfl rfl) trivial ⟨rfl, by
            first
            | (exfalso; omega)
            | (obtain rfl : op = 1 := by omega
               rfl)
            | (obtain rfl : op = 2 := by omega
               rfl)
            | (obtain rfl : op = 3 := by omega
               rfl)
            | (obtain rfl : op = 4 := by omega
               rfl)
            | (rcases (show op = 16 ∨ op = 17 ∨ op = 18 by omega) with rfl | rfl | rfl <;> rfl)
            | (rcases (show op = 38 ∨ op = 39 ∨ op = 40 ∨ op = 41 ∨ op = 42 ∨ op = 43 ∨ op = 44 ∨ op = 45 by omega) with rfl | rfl | rfl | rfl | rfl | rfl | rfl | rfl <;> rfl), rfl⟩
        · skip
          try simp only [decide_eq_false_iff_not, decide_eq_true_eq, Int.not_lt, Int.not_le, Bool.not_eq_false, Bool.not_eq_true, Bool.not_true, Bool.not_false, Bool.not_eq_true', Bool.not_eq_false', beq_eq_false_iff_ne, ne_eq, beq_iff_eq, bne_iff_ne, bne_eq_false_iff_eq, Classical.not_not] at g14
          refine Cd.seq fun K13 hK13 => ?_
          refine Cd.plain [(0, false), (1, false), (2, false)] rfl rfl ?_
          refine Jp.y 18 rfl (want_all rfl) rfl rfl Kp.true (Y.move rfl rfl) ?_
          refine Jp.y 19 rfl (want_all rfl) rfl rfl Kp.true (Y.leq rfl rfl rfl) ?_
          refine Jp.y 17 rfl (want_all rfl) rfl rfl Kp.true (Y.assign rfl rfl) ?_
          refine Jp.done hK13 ?_
          refine Cd.cond rfl (fun g17 => ?_) (fun g17 => ?_)
          · skip
            try simp only [decide_eq_false_iff_not, decide_eq_true_eq, Int.not_lt, Int.not_le, Bool.not_eq_false, Bool.not_eq_true, Bool.not_true, Bool.not_false, Bool.not_eq_true', Bool.not_eq_false', beq_eq_false_iff_ne, ne_eq, beq_iff_eq, bne_iff_ne, bne_eq_false_iff_eq, Classical.not_not] at g17
            refine Cd.seq fun K14 hK14 => ?_
            have hidx : (#[Value.int .i64 0, Value.int .i64 1, Value.int .i64 4, Value.int .i64 5, Value.int .i64 6, Value.int .i64 7] : Array Value)[((op : Int) - 5).toNat * 1]? = some (.int .i64 ((codeP op).2.1 : Int)) := by
              rcases (show op = 5 ∨ op = 6 ∨ op = 7 ∨ op = 8 ∨ op = 9 ∨ op = 10 by omega) with rfl | rfl | rfl | rfl | rfl | rfl <;> rfl
            refine Cd.drawn [] trivial [(0, true), (1, true), (2, true), (3, true), (4, true), (5, true), (6, true)] follows (by kernel_rfl) (fun hrl => ?_)
            refine Jp.q 20 rfl (want_all rfl) rfl rfl (Y.array [(0, _), (1, _), (2, _), (3, _), (4, _), (5, _)] [_, _, _, _, _, _] rfl rfl Try.underlying192 Try.sizeOf3 Try.zeroValue192 rfl) ?_
            refine Jp.q 21 rfl (want_all rfl) rfl rfl (Y.move rfl rfl) ?_
            refine Jp.q 22 rfl (want_all rfl) rfl rfl (Y.sub_ rfl rfl rfl (by first | exact wrap_i64 (by omega) (by omega) | rfl)) ?_
            refine Jp.q 23 rfl (want_all rfl) rfl rfl (Y.indexV (v := .int .i64 ((codeP op).2.1 : Int)) rfl Try.underlying192 Try.sizeOf3 Try.isAgg3 rfl rfl (by omega) (by omega) hidx) ?_
            refine Jp.q 2 rfl (want_all rfl) rfl rfl (Y.assign rfl rfl) ?_
            refine Jp.q 3 rfl (want_all rfl) rfl rfl (Y.assign rfl rfl) ?_
            refine Jp.q 4 rfl (want_all rfl) rfl rfl (Y.assign rfl rfl) ?_
            refine Jp.done hK14 ?_
            refine Cd.ret [] rfl (res3 rfl rfl rfl rfl) trivial ⟨rfl, by rcases (show op = 5 ∨ op = 6 ∨ op = 7 ∨ op = 8 ∨ op = 9 ∨ op = 10 by omega) with rfl | rfl | rfl | rfl | rfl | rfl <;> rfl, rfl⟩
          · skip
            try simp only [decide_eq_false_iff_not, decide_eq_true_eq, Int.not_lt, Int.not_le, Bool.not_eq_false, Bool.not_eq_true, Bool.not_true, Bool.not_false, Bool.not_eq_true', Bool.not_eq_false', beq_eq_false_iff_ne, ne_eq, beq_iff_eq, bne_iff_ne, bne_eq_false_iff_eq, Classical.not_not] at g17
            refine Cd.seq fun K16 hK16 => ?_
            refine Cd.plain [(0, false), (1, false), (2, false)] rfl rfl ?_
            refine Jp.y 25 rfl (want_all rfl) rfl rfl Kp.true (Y.move rfl rfl) ?_
            refine Jp.y 26 rfl (want_all rfl) rfl rfl Kp.true (Y.leq rfl rfl rfl) ?_
            refine Jp.y 24 rfl (want_all rfl) rfl rfl Kp.true (Y.assign rfl rfl) ?_
            refine Jp.done hK16 ?_
            refine Cd.cond rfl (fun g24 => ?_) (fun g24 => ?_)
            · skip
              try simp only [decide_eq_false_iff_not, decide_eq_true_eq, Int.not_lt, Int.not_le, Bool.not_eq_false, Bool.not_eq_true, Bool.not_true, Bool.not_false, Bool.not_eq_true', Bool.not_eq_false', beq_eq_false_iff_ne, ne_eq, beq_iff_eq, bne_iff_ne, bne_eq_false_iff_eq, Classical.not_not] at g24
              refine Cd.seq fun K17 hK17 => ?_
              have hidx : (#[Value.int .i64 0, Value.int .i64 1, Value.int .i64 2, Value.int .i64 4, Value.int .i64 5] : Array Value)[((op : Int) - 11).toNat * 1]? = some (.int .i64 ((codeP op).2.1 : Int)) := by
                rcases (show op = 11 ∨ op = 12 ∨ op = 13 ∨ op = 14 ∨ op = 15 by omega) with rfl | rfl | rfl | rfl | rfl <;> rfl
              refine Cd.drawn [] trivial [(0, true), (1, true), (2, true), (3, true), (4, true), (5, true), (6, true)] follows (by kernel_rfl) (fun hrl => ?_)
              refine Jp.q 27 rfl (want_all rfl) rfl rfl (Y.array [(0, _), (1, _), (2, _), (3, _), (4, _)] [_, _, _, _, _] rfl rfl Try.underlying193 Try.sizeOf3 Try.zeroValue193 rfl) ?_
              refine Jp.q 28 rfl (want_all rfl) rfl rfl (Y.move rfl rfl) ?_
              refine Jp.q 29 rfl (want_all rfl) rfl rfl (Y.sub_ rfl rfl rfl (by first | exact wrap_i64 (by omega) (by omega) | rfl)) ?_
              refine Jp.q 30 rfl (want_all rfl) rfl rfl (Y.indexV (v := .int .i64 ((codeP op).2.1 : Int)) rfl Try.underlying193 Try.sizeOf3 Try.isAgg3 rfl rfl (by omega) (by omega) hidx) ?_
              refine Jp.q 2 rfl (want_all rfl) rfl rfl (Y.assign rfl rfl) ?_
              refine Jp.q 3 rfl (want_all rfl) rfl rfl (Y.assign rfl rfl) ?_
              refine Jp.q 4 rfl (want_all rfl) rfl rfl (Y.assign rfl rfl) ?_
              refine Jp.done hK17 ?_
              refine Cd.ret [] rfl (res3 rfl rfl rfl rfl) trivial ⟨rfl, by rcases (show op = 11 ∨ op = 12 ∨ op = 13 ∨ op = 14 ∨ op = 15 by omega) with rfl | rfl | rfl | rfl | rfl <;> rfl, rfl⟩
            · skip
              try simp only [decide_eq_false_iff_not, decide_eq_true_eq, Int.not_lt, Int.not_le, Bool.not_eq_false, Bool.not_eq_true, Bool.not_true, Bool.not_false, Bool.not_eq_true', Bool.not_eq_false', beq_eq_false_iff_ne, ne_eq, beq_iff_eq, bne_iff_ne, bne_eq_false_iff_eq, Classical.not_not] at g24
              refine Cd.seq fun K19 hK19 => ?_
              refine Cd.plain [(0, false), (1, false), (2, false)] rfl rfl ?_
              refine Jp.y 32 rfl (want_all rfl) rfl rfl Kp.true (Y.move rfl rfl) ?_
              refine Jp.y 33 rfl (want_all rfl) rfl rfl Kp.true (Y.leq rfl rfl rfl) ?_
              refine Jp.y 31 rfl (want_all rfl) rfl rfl Kp.true (Y.assign rfl rfl) ?_
              refine Jp.done hK19 ?_
              refine Cd.cond rfl (fun g31 => ?_) (fun g31 => ?_)
              · skip
                try simp only [decide_eq_false_iff_not, decide_eq_true_eq, Int.not_lt, Int.not_le, Bool.not_eq_false, Bool.not_eq_true, Bool.not_true, Bool.not_false, Bool.not_eq_true', Bool.not_eq_false', beq_eq_false_iff_ne, ne_eq, beq_iff_eq, bne_iff_ne, bne_eq_false_iff_eq, Classical.not_not] at g31
                refine Cd.seq fun K20 hK20 => ?_
                refine Cd.plain [(0, false), (1, false), (2, false), (3, false), (4, false)] rfl rfl ?_
                refine Jp.y 34 rfl (want_all rfl) rfl rfl Kp.true (Y.move rfl rfl) ?_
                refine Jp.y 35 rfl (want_all rfl) rfl rfl Kp.true (Y.sub_ rfl rfl rfl (by first | exact wrap_i64 (by omega) (by omega) | rfl)) ?_
                refine Jp.y 2 rfl (want_all rfl) rfl rfl Kp.true (Y.assign rfl rfl) ?_
                refine Jp.y 3 rfl (want_all rfl) rfl rfl Kp.true (Y.assign rfl rfl) ?_
                refine Jp.y 4 rfl (want_all rfl) rfl rfl Kp.true (Y.assign rfl rfl) ?_
                refine Jp.done hK20 ?_
                refine Cd.ret [] rfl (res3 rfl rfl rfl rfl) trivial ⟨rfl, by
                  first
                  | (exfalso; omega)
                  | (obtain rfl : op = 1 := by omega
                     rfl)
                  | (obtain rfl : op = 2 := by omega
                     rfl)
                  | (obtain rfl : op = 3 := by omega
                     rfl)
                  | (obtain rfl : op = 4 := by omega
                     rfl)
                  | (rcases (show op = 16 ∨ op = 17 ∨ op = 18 by omega) with rfl | rfl | rfl <;> rfl)
                  | (rcases (show op = 38 ∨ op = 39 ∨ op = 40 ∨ op = 41 ∨ op = 42 ∨ op = 43 ∨ op = 44 ∨ op = 45 by omega) with rfl | rfl | rfl | rfl | rfl | rfl | rfl | rfl <;> rfl), rfl⟩
              · skip
                try simp only [decide_eq_false_iff_not, decide_eq_true_eq, Int.not_lt, Int.not_le, Bool.not_eq_false, Bool.not_eq_true, Bool.not_true, Bool.not_false, Bool.not_eq_true', Bool.not_eq_false', beq_eq_false_iff_ne, ne_eq, beq_iff_eq, bne_iff_ne, bne_eq_false_iff_eq, Classical.not_not] at g31
                refine Cd.seq fun K21 hK21 => ?_
                refine Cd.plain [(0, false), (1, false), (2, false)] rfl rfl ?_
                refine Jp.y 37 rfl (want_all rfl) rfl rfl Kp.true (Y.move rfl rfl) ?_
                refine Jp.y 38 rfl (want_all rfl) rfl rfl Kp.true (Y.leq rfl rfl rfl) ?_
                refine Jp.y 36 rfl (want_all rfl) rfl rfl Kp.true (Y.assign rfl rfl) ?_
                refine Jp.done hK21 ?_
                refine Cd.cond rfl (fun g36 => ?_) (fun g36 => ?_)
                · skip
                  try simp only [decide_eq_false_iff_not, decide_eq_true_eq, Int.not_lt, Int.not_le, Bool.not_eq_false, Bool.not_eq_true, Bool.not_true, Bool.not_false, Bool.not_eq_true', Bool.not_eq_false', beq_eq_false_iff_ne, ne_eq, beq_iff_eq, bne_iff_ne, bne_eq_false_iff_eq, Classical.not_not] at g36
                  refine Cd.seq fun K22 hK22 => ?_
                  have hidx : (#[Value.int .i64 0, Value.int .i64 2, Value.int .i64 3, Value.int .i64 4, Value.int .i64 6, Value.int .i64 7] : Array Value)[((op : Int) - 19).toNat * 1]? = some (.int .i64 ((codeP op).2.1 : Int)) := by
                    rcases (show op = 19 ∨ op = 20 ∨ op = 21 ∨ op = 22 ∨ op = 23 ∨ op = 24 by omega) with rfl | rfl | rfl | rfl | rfl | rfl <;> rfl
                  refine Cd.drawn [] trivial [(0, true), (1, true), (2, true), (3, true), (4, true), (5, true), (6, true)] follows (by kernel_rfl) (fun hrl => ?_)
                  refine Jp.q 39 rfl (want_all rfl) rfl rfl (Y.array [(0, _), (1, _), (2, _), (3, _), (4, _), (5, _)] [_, _, _, _, _, _] rfl rfl Try.underlying192 Try.sizeOf3 Try.zeroValue192 rfl) ?_
                  refine Jp.q 40 rfl (want_all rfl) rfl rfl (Y.move rfl rfl) ?_
                  refine Jp.q 41 rfl (want_all rfl) rfl rfl (Y.sub_ rfl rfl rfl (by first | exact wrap_i64 (by omega) (by omega) | rfl)) ?_
                  refine Jp.q 42 rfl (want_all rfl) rfl rfl (Y.indexV (v := .int .i64 ((codeP op).2.1 : Int)) rfl Try.underlying192 Try.sizeOf3 Try.isAgg3 rfl rfl (by omega) (by omega) hidx) ?_
                  refine Jp.q 2 rfl (want_all rfl) rfl rfl (Y.assign rfl rfl) ?_
                  refine Jp.q 3 rfl (want_all rfl) rfl rfl (Y.assign rfl rfl) ?_
                  refine Jp.q 4 rfl (want_all rfl) rfl rfl (Y.assign rfl rfl) ?_
                  refine Jp.done hK22 ?_
                  refine Cd.ret [] rfl (res3 rfl rfl rfl rfl) trivial ⟨rfl, by rcases (show op = 19 ∨ op = 20 ∨ op = 21 ∨ op = 22 ∨ op = 23 ∨ op = 24 by omega) with rfl | rfl | rfl | rfl | rfl | rfl <;> rfl, rfl⟩
                · skip
                  try simp only [decide_eq_false_iff_not, decide_eq_true_eq, Int.not_lt, Int.not_le, Bool.not_eq_false, Bool.not_eq_true, Bool.not_true, Bool.not_false, Bool.not_eq_true', Bool.not_eq_false', beq_eq_false_iff_ne, ne_eq, beq_iff_eq, bne_iff_ne, bne_eq_false_iff_eq, Classical.not_not] at g36
                  refine Cd.seq fun K24 hK24 => ?_
                  refine Cd.plain [(0, false), (1, false), (2, false)] rfl rfl ?_
                  refine Jp.y 44 rfl (want_all rfl) rfl rfl Kp.true (Y.move rfl rfl) ?_
                  refine Jp.y 45 rfl (want_all rfl) rfl rfl Kp.true (Y.leq rfl rfl rfl) ?_
                  refine Jp.y 43 rfl (want_all rfl) rfl rfl Kp.true (Y.assign rfl rfl) ?_
                  refine Jp.done hK24 ?_
                  refine Cd.cond rfl (fun g43 => ?_) (fun g43 => ?_)
                  · skip
                    try simp only [decide_eq_false_iff_not, decide_eq_true_eq, Int.not_lt, Int.not_le, Bool.not_eq_false, Bool.not_eq_true, Bool.not_true, Bool.not_false, Bool.not_eq_true', Bool.not_eq_false', beq_eq_false_iff_ne, ne_eq, beq_iff_eq, bne_iff_ne, bne_eq_false_iff_eq, Classical.not_not] at g43
                    refine Cd.seq fun K25 hK25 => ?_
                    have hcs : op = 25 ∨ op = 26 ∨ op = 27 := by omega
                    have hidx : (#[Value.int .i64 1, Value.int .i64 5, Value.int .i64 5] : Array Value)[((op : Int) - 25).toNat * 1]? = some (.int .i64 ((codeP op).2.1 : Int)) := by
                      rcases hcs with rfl | rfl | rfl <;> rfl
                    have hidx2 : (#[Value.int .i64 0, Value.int .i64 0, Value.int .i64 32] : Array Value)[((op : Int) - 25).toNat * 1]? = some (.int .i64 ((codeP op).2.2 : Int)) := by
                      rcases hcs with rfl | rfl | rfl <;> rfl
                    refine Cd.drawn [] trivial [(0, true), (1, true), (2, true), (3, true), (4, true), (5, true), (6, true), (7, true), (8, true), (9, true), (10, true)] follows (by kernel_rfl) (fun hrl => ?_)
                    refine Jp.q 46 rfl (want_all rfl) rfl rfl (Y.array [(0, _), (1, _), (2, _)] [_, _, _] rfl rfl Try.underlying194 Try.sizeOf3 Try.zeroValue194 rfl) ?_
                    refine Jp.q 47 rfl (want_all rfl) rfl rfl (Y.move rfl rfl) ?_
                    refine Jp.q 48 rfl (want_all rfl) rfl rfl (Y.sub_ rfl rfl rfl (by first | exact wrap_i64 (by omega) (by omega) | rfl)) ?_
                    refine Jp.q 49 rfl (want_all rfl) rfl rfl (Y.indexV (v := .int .i64 ((codeP op).2.1 : Int)) rfl Try.underlying194 Try.sizeOf3 Try.isAgg3 rfl rfl (by omega) (by omega) hidx) ?_
                    refine Jp.q 50 rfl (want_all rfl) rfl rfl (Y.array [(0, _), (1, _), (2, _)] [_, _, _] rfl rfl Try.underlying194 Try.sizeOf3 Try.zeroValue194 rfl) ?_
                    refine Jp.q 51 rfl (want_all rfl) rfl rfl (Y.move rfl rfl) ?_
                    refine Jp.q 52 rfl (want_all rfl) rfl rfl (Y.sub_ rfl rfl rfl (by first | exact wrap_i64 (by omega) (by omega) | rfl)) ?_
                    refine Jp.q 53 rfl (want_all rfl) rfl rfl (Y.indexV (v := .int .i64 ((codeP op).2.2 : Int)) rfl Try.underlying194 Try.sizeOf3 Try.isAgg3 rfl rfl (by omega) (by omega) hidx2) ?_
                    refine Jp.q 2 rfl (want_all rfl) rfl rfl (Y.assign rfl rfl) ?_
                    refine Jp.q 3 rfl (want_all rfl) rfl rfl (Y.assign rfl rfl) ?_
                    refine Jp.q 4 rfl (want_all rfl) rfl rfl (Y.assign rfl rfl) ?_
                    refine Jp.done hK25 ?_
                    refine Cd.ret [] rfl (res3 rfl rfl rfl rfl) trivial ⟨rfl, by rcases hcs with rfl | rfl | rfl <;> rfl, rfl⟩
                  · skip
                    try simp only [decide_eq_false_iff_not, decide_eq_true_eq, Int.not_lt, Int.not_le, Bool.not_eq_false, Bool.not_eq_true, Bool.not_true, Bool.not_false, Bool.not_eq_true', Bool.not_eq_false', beq_eq_false_iff_ne, ne_eq, beq_iff_eq, bne_iff_ne, bne_eq_false_iff_eq, Classical.not_not] at g43
                    refine Cd.seq fun K27 hK27 => ?_
                    refine Cd.plain [(0, false), (1, false), (2, false)] rfl rfl ?_
                    refine Jp.y 55 rfl (want_all rfl) rfl rfl Kp.true (Y.move rfl rfl) ?_
                    refine Jp.y 56 rfl (want_all rfl) rfl rfl Kp.true (Y.leq rfl rfl rfl) ?_
                    refine Jp.y 54 rfl (want_all rfl) rfl rfl Kp.true (Y.assign rfl rfl) ?_
                    refine Jp.done hK27 ?_
                    refine Cd.cond rfl (fun g54 => ?_) (fun g54 => ?_)
                    · skip
                      try simp only [decide_eq_false_iff_not, decide_eq_true_eq, Int.not_lt, Int.not_le, Bool.not_eq_false, Bool.not_eq_true, Bool.not_true, Bool.not_false, Bool.not_eq_true', Bool.not_eq_false', beq_eq_false_iff_ne, ne_eq, beq_iff_eq, bne_iff_ne, bne_eq_false_iff_eq, Classical.not_not] at g54
                      refine Cd.seq fun K28 hK28 => ?_
                      have hcs : op = 28 ∨ op = 29 ∨ op = 30 ∨ op = 31 ∨ op = 32 ∨ op = 33 ∨ op = 34 ∨ op = 35 ∨ op = 36 ∨ op = 37 := by omega
                      have hidx : (#[Value.int .i64 0, Value.int .i64 0, Value.int .i64 1, Value.int .i64 2, Value.int .i64 3, Value.int .i64 4, Value.int .i64 5, Value.int .i64 5, Value.int .i64 6, Value.int .i64 7] : Array Value)[((op : Int) - 28).toNat * 1]? = some (.int .i64 ((codeP op).2.1 : Int)) := by
                        rcases hcs with rfl | rfl | rfl | rfl | rfl | rfl | rfl | rfl | rfl | rfl <;> rfl
                      have hidx2 : (#[Value.int .i64 0, Value.int .i64 32, Value.int .i64 0, Value.int .i64 0, Value.int .i64 0, Value.int .i64 0, Value.int .i64 0, Value.int .i64 32, Value.int .i64 0, Value.int .i64 0] : Array Value)[((op : Int) - 28).toNat * 1]? = some (.int .i64 ((codeP op).2.2 : Int)) := by
                        rcases hcs with rfl | rfl | rfl | rfl | rfl | rfl | rfl | rfl | rfl | rfl <;> rfl
                      refine Cd.drawn [] trivial [(0, true), (1, true), (2, true), (3, true), (4, true), (5, true), (6, true), (7, true), (8, true), (9, true), (10, true)] follows (by kernel_rfl) (fun hrl => ?_)
                      refine Jp.q 57 rfl (want_all rfl) rfl rfl (Y.array [(0, _), (1, _), (2, _), (3, _), (4, _), (5, _), (6, _), (7, _), (8, _), (9, _)] [_, _, _, _, _, _, _, _, _, _] rfl rfl Try.underlying102 Try.sizeOf3 Try.zeroValue102 rfl) ?_
                      refine Jp.q 58 rfl (want_all rfl) rfl rfl (Y.move rfl rfl) ?_
                      refine Jp.q 59 rfl (want_all rfl) rfl rfl (Y.sub_ rfl rfl rfl (by first | exact wrap_i64 (by omega) (by omega) | rfl)) ?_
                      refine Jp.q 60 rfl (want_all rfl) rfl rfl (Y.indexV (v := .int .i64 ((codeP op).2.1 : Int)) rfl Try.underlying102 Try.sizeOf3 Try.isAgg3 rfl rfl (by omega) (by omega) hidx) ?_
                      refine Jp.q 61 rfl (want_all rfl) rfl rfl (Y.array [(0, _), (1, _), (2, _), (3, _), (4, _), (5, _), (6, _), (7, _), (8, _), (9, _)] [_, _, _, _, _, _, _, _, _, _] rfl rfl Try.underlying102 Try.sizeOf3 Try.zeroValue102 rfl) ?_
                      refine Jp.q 62 rfl (want_all rfl) rfl rfl (Y.move rfl rfl) ?_
                      refine Jp.q 63 rfl (want_all rfl) rfl rfl (Y.sub_ rfl rfl rfl (by first | exact wrap_i64 (by omega) (by omega) | rfl)) ?_
                      refine Jp.q 64 rfl (want_all rfl) rfl rfl (Y.indexV (v := .int .i64 ((codeP op).2.2 : Int)) rfl Try.underlying102 Try.sizeOf3 Try.isAgg3 rfl rfl (by omega) (by omega) hidx2) ?_
                      refine Jp.q 2 rfl (want_all rfl) rfl rfl (Y.assign rfl rfl) ?_
                      refine Jp.q 3 rfl (want_all rfl) rfl rfl (Y.assign rfl rfl) ?_
                      refine Jp.q 4 rfl (want_all rfl) rfl rfl (Y.assign rfl rfl) ?_
                      refine Jp.done hK28 ?_
                      refine Cd.ret [] rfl (res3 rfl rfl rfl rfl) trivial ⟨rfl, by rcases hcs with rfl | rfl | rfl | rfl | rfl | rfl | rfl | rfl | rfl | rfl <;> rfl, rfl⟩
                    · skip
                      try simp only [decide_eq_false_iff_not, decide_eq_true_eq, Int.not_lt, Int.not_le, Bool.not_eq_false, Bool.not_eq_true, Bool.not_true, Bool.not_false, Bool.not_eq_true', Bool.not_eq_false', beq_eq_false_iff_ne, ne_eq, beq_iff_eq, bne_iff_ne, bne_eq_false_iff_eq, Classical.not_not] at g54
                      refine Cd.over rfl hK4 ?_
                      refine Cd.seq fun K30 hK30 => ?_
                      refine Cd.plain [(0, false), (1, false), (2, false), (3, false), (4, false)] rfl rfl ?_
                      refine Jp.y 65 rfl (want_all rfl) rfl rfl Kp.true (Y.move rfl rfl) ?_
                      refine Jp.y 66 rfl (want_all rfl) rfl rfl Kp.true (Y.sub_ rfl rfl rfl (by first | exact wrap_i64 (by omega) (by omega) | rfl)) ?_
                      refine Jp.y 2 rfl (want_all rfl) rfl rfl Kp.true (Y.assign rfl rfl) ?_
                      refine Jp.y 3 rfl (want_all rfl) rfl rfl Kp.true (Y.assign rfl rfl) ?_
                      refine Jp.y 4 rfl (want_all rfl) rfl rfl Kp.true (Y.assign rfl rfl) ?_
                      refine Jp.done hK30 ?_
                      refine Cd.ret [] rfl (res3 rfl rfl rfl rfl) trivial ⟨rfl, by
                        first
                        | (exfalso; omega)
                        | (obtain rfl : op = 1 := by omega
                           rfl)
                        | (obtain rfl : op = 2 := by omega
                           rfl)
                        | (obtain rfl : op = 3 := by omega
                           rfl)
                        | (obtain rfl : op = 4 := by omega
                           rfl)
                        | (rcases (show op = 16 ∨ op = 17 ∨ op = 18 by omega) with rfl | rfl | rfl <;> rfl)
                        | (rcases (show op = 38 ∨ op = 39 ∨ op = 40 ∨ op = 41 ∨ op = 42 ∨ op = 43 ∨ op = 44 ∨ op = 45 by omega) with rfl | rfl | rfl | rfl | rfl | rfl | rfl | rfl <;> rfl), rfl⟩
def cutI (v : Int) (n : Nat) (m : Int) : Int := bitsB .and .i64 (v.fdiv (2 ^ n)) m
def bitsP (op : Nat) (v : Int) : Nat :=
  if op ≤ 2 then u32 v - u32 v % 4096 else if op = 3 then placeP (cutI v 20 1) 31 ||| placeP (cutI v 1 1023) 21 ||| placeP (cutI v 11 1) 20 ||| placeP (cutI v 12 255) 12 else
  if 5 ≤ op ∧ op ≤ 10 then placeP (cutI v 12 1) 31 ||| placeP (cutI v 5 63) 25 ||| placeP (cutI v 1 15) 8 ||| placeP (cutI v 11 1) 7 else
  if 16 ≤ op ∧ op ≤ 18 then placeP (cutI v 5 127) 25 ||| placeP (bitsB .and .i64 v 31) 7 else if 25 ≤ op ∧ op ≤ 27 then placeP (bitsB .and .i64 v 31) 20 else
  if 28 ≤ op then 0 else placeP (bitsB .and .i64 v 4095) 20
theorem or_lt {a b : Nat} (ha : a < 4294967296) (hb : b < 4294967296) : a ||| b < 4294967296 := Nat.or_lt_two_pow (n := 32) ha hb
theorem or4_u {a b c d : Nat} (ha : a < 4294967296) (hb : b < 4294967296) (hc : c < 4294967296) (hd : d < 4294967296) : bitsB .or .u32 (bitsB .or .u32 (bitsB .or .u32 (a : Int) b) c) d = ((a ||| b ||| c ||| d : Nat) : Int) := by
  rw [bits_or32 ha hb, bits_or32 (or_lt ha hb) hc, bits_or32 (or_lt (or_lt ha hb) hc) hd]
section
attribute [local irreducible] bitsB IntKind.wrap u32
theorem bits_spec (op : Nat) (v : Int) (hv : -2147483648 ≤ v ∧ v ≤ 2147483647) : Spec Try.prog 59 #[.int .i64 op, .int .i32 v] (fun _ => True) [] (fun ρ ρ' r L => ρ' = ρ ∧ r = .int .u32 (bitsP op v : Int) ∧ L = []) := by
  refine Spec.of 93 Try.func59 rfl Try.ntmps59 [(0, _), (1, _)] rfl rfl ?_
  intro cx ρ hr h0
  obtain ⟨hv1, hv2⟩ := hv
  have hm : bitsB .and .u32 (IntKind.u32.wrap v) 4294963200 = ((u32 v - u32 v % 4096 : Nat) : Int) := by
    have h := bits_and32 (b := 4294963200) (u32_lt v) (by omega)
    rw [and_hi12 _ (u32_lt v)] at h
    rw [wrap_u]; exact h
  refine Cd.seq fun K31 hK31 => ?_
  refine Cd.plain [(0, false)] rfl rfl ?_
  refine Jp.y 4 rfl (want_all rfl) rfl rfl Kp.true (Y.assign rfl rfl) ?_
  refine Jp.done hK31 ?_
  refine Cd.seq fun K32 hK32 => ?_
  refine Cd.plain [(0, false), (1, false), (2, false)] rfl rfl ?_
  refine Jp.y 6 rfl (want_all rfl) rfl rfl Kp.true (Y.move rfl rfl) ?_
  refine Jp.y 7 rfl (want_all rfl) rfl rfl Kp.true (Y.conv_ rfl rfl Try.underlying21 Try.underlying3 (by first | exact wrap_i64 (by omega) (by omega) | rfl)) ?_
  refine Jp.y 5 rfl (want_all rfl) rfl rfl Kp.true (Y.assign rfl rfl) ?_
  refine Jp.done hK32 ?_
  refine Cd.seq fun K33 hK33 => ?_
  refine Cd.block ?_
  refine Cd.seq fun K34 hK34 => ?_
  refine Cd.plain [(0, false), (1, false), (2, false)] rfl rfl ?_
  refine Jp.y 9 rfl (want_all rfl) rfl rfl Kp.true (Y.move rfl rfl) ?_
  refine Jp.y 10 rfl (want_all rfl) rfl rfl Kp.true (Y.leq rfl rfl rfl) ?_
  refine Jp.y 8 rfl (want_all rfl) rfl rfl Kp.true (Y.assign rfl rfl) ?_
  refine Jp.done hK34 ?_
  refine Cd.cond rfl (fun g8 => ?_) (fun g8 => ?_)
  · skip
    try simp only [decide_eq_false_iff_not, decide_eq_true_eq, Int.not_lt, Int.not_le, Bool.not_eq_false, Bool.not_eq_true, Bool.not_true, Bool.not_false, Bool.not_eq_true', Bool.not_eq_false', beq_eq_false_iff_ne, ne_eq, beq_iff_eq, bne_iff_ne, bne_eq_false_iff_eq, Classical.not_not] at g8
    refine Cd.seq fun K35 hK35 => ?_
    refine Cd.plain [(0, false), (1, false), (2, false), (3, false)] rfl rfl ?_
    refine Jp.y 11 rfl (want_all rfl) rfl rfl Kp.true (Y.move rfl rfl) ?_
    refine Jp.y 12 rfl (want_all rfl) rfl rfl Kp.true (Y.conv_ rfl rfl Try.underlying21 Try.underlying25 (by first | exact wrap_u32 (by omega) (by omega) | rfl)) ?_
    refine Jp.y 13 rfl (want_all rfl) rfl rfl Kp.true (Y.bits rfl rfl rfl rfl) ?_
    refine Jp.y 4 rfl (want_all rfl) rfl rfl Kp.true (Y.assign rfl rfl) ?_
    refine Jp.done hK35 ?_
    refine Cd.ret [] rfl (res1 rfl rfl) trivial ⟨rfl, congrArg (Value.int .u32) (by
      first
      | (exfalso; omega)
      | (rw [bitsP]; repeat first | exact hm | exact or4_u (placeP_lt _ _) (placeP_lt _ _) (placeP_lt _ _) (placeP_lt _ _) | exact bits_or32 (placeP_lt _ _) (placeP_lt _ _) | rfl | rw [if_pos (by omega)] | rw [if_neg (by omega)])), rfl⟩
  · skip
    try simp only [decide_eq_false_iff_not, decide_eq_true_eq, Int.not_lt, Int.not_le, Bool.not_eq_false, Bool.not_eq_true, Bool.not_true, Bool.not_false, Bool.not_eq_true', Bool.not_eq_false', beq_eq_false_iff_ne, ne_eq, beq_iff_eq, bne_iff_ne, bne_eq_false_iff_eq, Classical.not_not] at g8
    refine Cd.seq fun K36 hK36 => ?_
    refine Cd.plain [(0, false), (1, false), (2, false)] rfl rfl ?_
    refine Jp.y 15 rfl (want_all rfl) rfl rfl Kp.true (Y.move rfl rfl) ?_
    refine Jp.y 16 rfl (want_all rfl) rfl rfl Kp.true (Y.eql rfl rfl rfl) ?_
    refine Jp.y 14 rfl (want_all rfl) rfl rfl Kp.true (Y.assign rfl rfl) ?_
    refine Jp.done hK36 ?_
    refine Cd.cond rfl (fun g14 => ?_) (fun g14 => ?_)
    · skip
      try simp only [decide_eq_false_iff_not, decide_eq_true_eq, Int.not_lt, Int.not_le, Bool.not_eq_false, Bool.not_eq_true, Bool.not_true, Bool.not_false, Bool.not_eq_true', Bool.not_eq_false', beq_eq_false_iff_ne, ne_eq, beq_iff_eq, bne_iff_ne, bne_eq_false_iff_eq, Classical.not_not] at g14
      refine Cd.seq fun K37 hK37 => ?_
      refine Cd.plain [(0, false), (1, false), (2, false), (3, false), (4, false), (5, false), (6, false), (7, false), (8, false), (9, false), (10, false), (11, false), (12, false), (13, false), (14, false), (15, false), (16, false), (17, false), (18, false), (19, false)] rfl rfl ?_
      refine Jp.y 17 rfl (want_all rfl) rfl rfl Kp.true (Y.move rfl rfl) ?_
      refine Jp.y 18 rfl (want_all rfl) rfl rfl Kp.true (Y.shr rfl rfl rfl (by first | decide | omega)) ?_
      refine Jp.y 19 rfl (want_all rfl) rfl rfl Kp.true (Y.bits rfl rfl rfl rfl) ?_
      refine Jp.call [] [] (place_spec _ _ (by decide)) 20 rfl (want_all rfl) rfl rfl (Runs.fn rfl Try.call58 rfl) (by decide) (by decide) rfl trivial ?_
      rintro v101 ρ101 L101 ⟨rfl, rfl, rfl⟩
      refine ⟨rfl, fun hle101 => ⟨Kp.true, ?_⟩⟩
      refine Jp.y 21 rfl (want_all rfl) rfl rfl Kp.true (Y.move rfl rfl) ?_
      refine Jp.y 22 rfl (want_all rfl) rfl rfl Kp.true (Y.shr rfl rfl rfl (by first | decide | omega)) ?_
      refine Jp.y 23 rfl (want_all rfl) rfl rfl Kp.true (Y.bits rfl rfl rfl rfl) ?_
      refine Jp.call [] [] (place_spec _ _ (by decide)) 24 rfl (want_all rfl) rfl rfl (Runs.fn rfl Try.call58 rfl) (by decide) (by decide) rfl trivial ?_
      rintro v102 ρ102 L102 ⟨rfl, rfl, rfl⟩
      refine ⟨rfl, fun hle102 => ⟨Kp.true, ?_⟩⟩
      refine Jp.y 25 rfl (want_all rfl) rfl rfl Kp.true (Y.bits rfl rfl rfl rfl) ?_
      refine Jp.y 26 rfl (want_all rfl) rfl rfl Kp.true (Y.move rfl rfl) ?_
      refine Jp.y 27 rfl (want_all rfl) rfl rfl Kp.true (Y.shr rfl rfl rfl (by first | decide | omega)) ?_
      refine Jp.y 28 rfl (want_all rfl) rfl rfl Kp.true (Y.bits rfl rfl rfl rfl) ?_
      refine Jp.call [] [] (place_spec _ _ (by decide)) 29 rfl (want_all rfl) rfl rfl (Runs.fn rfl Try.call58 rfl) (by decide) (by decide) rfl trivial ?_
      rintro v103 ρ103 L103 ⟨rfl, rfl, rfl⟩
      refine ⟨rfl, fun hle103 => ⟨Kp.true, ?_⟩⟩
      refine Jp.y 30 rfl (want_all rfl) rfl rfl Kp.true (Y.bits rfl rfl rfl rfl) ?_
      refine Jp.y 31 rfl (want_all rfl) rfl rfl Kp.true (Y.move rfl rfl) ?_
      refine Jp.y 32 rfl (want_all rfl) rfl rfl Kp.true (Y.shr rfl rfl rfl (by first | decide | omega)) ?_
      refine Jp.y 33 rfl (want_all rfl) rfl rfl Kp.true (Y.bits rfl rfl rfl rfl) ?_
      refine Jp.call [] [] (place_spec _ _ (by decide)) 34 rfl (want_all rfl) rfl rfl (Runs.fn rfl Try.call58 rfl) (by decide) (by decide) rfl trivial ?_
      rintro v104 ρ104 L104 ⟨rfl, rfl, rfl⟩
      refine ⟨rfl, fun hle104 => ⟨Kp.true, ?_⟩⟩
      refine Jp.y 35 rfl (want_all rfl) rfl rfl Kp.true (Y.bits rfl rfl rfl rfl) ?_
      refine Jp.y 4 rfl (want_all rfl) rfl rfl Kp.true (Y.assign rfl rfl) ?_
      refine Jp.done hK37 ?_
      refine Cd.ret [] rfl (res1 rfl rfl) trivial ⟨rfl, congrArg (Value.int .u32) (by
        first
        | (exfalso; omega)
        | (rw [bitsP]; repeat first | exact hm | exact or4_u (placeP_lt _ _) (placeP_lt _ _) (placeP_lt _ _) (placeP_lt _ _) | exact bits_or32 (placeP_lt _ _) (placeP_lt _ _) | rfl | rw [if_pos (by omega)] | rw [if_neg (by omega)])), rfl⟩
    · skip
      try simp only [decide_eq_false_iff_not, decide_eq_true_eq, Int.not_lt, Int.not_le, Bool.not_eq_false, Bool.not_eq_true, Bool.not_true, Bool.not_false, Bool.not_eq_true', Bool.not_eq_false', beq_eq_false_iff_ne, ne_eq, beq_iff_eq, bne_iff_ne, bne_eq_false_iff_eq, Classical.not_not] at g14
      refine Cd.seq fun K38 hK38 => ?_
      refine Cd.plain [(0, false), (1, false), (2, false), (3, false), (4, false), (5, false), (6, false)] rfl rfl ?_
      refine Jp.y 37 rfl (want_all rfl) rfl rfl Kp.true (Y.move rfl rfl) ?_
      refine Jp.y 38 rfl (want_all rfl) rfl rfl Kp.true (Y.geq rfl rfl rfl) ?_
      refine Jp.y 39 rfl (want_all rfl) rfl rfl Kp.true (Y.move rfl rfl) ?_
      refine Jp.split 39 rfl (fun g39 => ?_) (fun g39 => ?_)
      · skip
        try simp only [decide_eq_false_iff_not, decide_eq_true_eq, Int.not_lt, Int.not_le, Bool.not_eq_false, Bool.not_eq_true, Bool.not_true, Bool.not_false, Bool.not_eq_true', Bool.not_eq_false', beq_eq_false_iff_ne, ne_eq, beq_iff_eq, bne_iff_ne, bne_eq_false_iff_eq, Classical.not_not] at g39
        refine Jp.y 40 rfl (want_as rfl rfl rfl rfl) rfl rfl Kp.true (Y.move rfl rfl) ?_
        refine Jp.y 41 rfl (want_as rfl rfl rfl rfl) rfl rfl Kp.true (Y.leq rfl rfl rfl) ?_
        refine Jp.y 42 rfl (want_all rfl) rfl rfl Kp.true (Y.pickT rfl rfl rfl) ?_
        refine Jp.y 36 rfl (want_all rfl) rfl rfl Kp.true (Y.assign rfl rfl) ?_
        refine Jp.done hK38 ?_
        refine Cd.cond rfl (fun g36 => ?_) (fun g36 => ?_)
        · skip
          try simp only [decide_eq_false_iff_not, decide_eq_true_eq, Int.not_lt, Int.not_le, Bool.not_eq_false, Bool.not_eq_true, Bool.not_true, Bool.not_false, Bool.not_eq_true', Bool.not_eq_false', beq_eq_false_iff_ne, ne_eq, beq_iff_eq, bne_iff_ne, bne_eq_false_iff_eq, Classical.not_not] at g36
          refine Cd.seq fun K39 hK39 => ?_
          refine Cd.plain [(0, false), (1, false), (2, false), (3, false), (4, false), (5, false), (6, false), (7, false), (8, false), (9, false), (10, false), (11, false), (12, false), (13, false), (14, false), (15, false), (16, false), (17, false), (18, false), (19, false)] rfl rfl ?_
          refine Jp.y 43 rfl (want_all rfl) rfl rfl Kp.true (Y.move rfl rfl) ?_
          refine Jp.y 44 rfl (want_all rfl) rfl rfl Kp.true (Y.shr rfl rfl rfl (by first | decide | omega)) ?_
          refine Jp.y 45 rfl (want_all rfl) rfl rfl Kp.true (Y.bits rfl rfl rfl rfl) ?_
          refine Jp.call [] [] (place_spec _ _ (by decide)) 46 rfl (want_all rfl) rfl rfl (Runs.fn rfl Try.call58 rfl) (by decide) (by decide) rfl trivial ?_
          rintro v105 ρ105 L105 ⟨rfl, rfl, rfl⟩
          refine ⟨rfl, fun hle105 => ⟨Kp.true, ?_⟩⟩
          refine Jp.y 47 rfl (want_all rfl) rfl rfl Kp.true (Y.move rfl rfl) ?_
          refine Jp.y 48 rfl (want_all rfl) rfl rfl Kp.true (Y.shr rfl rfl rfl (by first | decide | omega)) ?_
          refine Jp.y 49 rfl (want_all rfl) rfl rfl Kp.true (Y.bits rfl rfl rfl rfl) ?_
          refine Jp.call [] [] (place_spec _ _ (by decide)) 50 rfl (want_all rfl) rfl rfl (Runs.fn rfl Try.call58 rfl) (by decide) (by decide) rfl trivial ?_
          rintro v106 ρ106 L106 ⟨rfl, rfl, rfl⟩
          refine ⟨rfl, fun hle106 => ⟨Kp.true, ?_⟩⟩
          refine Jp.y 51 rfl (want_all rfl) rfl rfl Kp.true (Y.bits rfl rfl rfl rfl) ?_
          refine Jp.y 52 rfl (want_all rfl) rfl rfl Kp.true (Y.move rfl rfl) ?_
          refine Jp.y 53 rfl (want_all rfl) rfl rfl Kp.true (Y.shr rfl rfl rfl (by first | decide | omega)) ?_
          refine Jp.y 54 rfl (want_all rfl) rfl rfl Kp.true (Y.bits rfl rfl rfl rfl) ?_
          refine Jp.call [] [] (place_spec _ _ (by decide)) 55 rfl (want_all rfl) rfl rfl (Runs.fn rfl Try.call58 rfl) (by decide) (by decide) rfl trivial ?_
          rintro v107 ρ107 L107 ⟨rfl, rfl, rfl⟩
          refine ⟨rfl, fun hle107 => ⟨Kp.true, ?_⟩⟩
          refine Jp.y 56 rfl (want_all rfl) rfl rfl Kp.true (Y.bits rfl rfl rfl rfl) ?_
          refine Jp.y 57 rfl (want_all rfl) rfl rfl Kp.true (Y.move rfl rfl) ?_
          refine Jp.y 58 rfl (want_all rfl) rfl rfl Kp.true (Y.shr rfl rfl rfl (by first | decide | omega)) ?_
          refine Jp.y 59 rfl (want_all rfl) rfl rfl Kp.true (Y.bits rfl rfl rfl rfl) ?_
          refine Jp.call [] [] (place_spec _ _ (by decide)) 60 rfl (want_all rfl) rfl rfl (Runs.fn rfl Try.call58 rfl) (by decide) (by decide) rfl trivial ?_
          rintro v108 ρ108 L108 ⟨rfl, rfl, rfl⟩
          refine ⟨rfl, fun hle108 => ⟨Kp.true, ?_⟩⟩
          refine Jp.y 61 rfl (want_all rfl) rfl rfl Kp.true (Y.bits rfl rfl rfl rfl) ?_
          refine Jp.y 4 rfl (want_all rfl) rfl rfl Kp.true (Y.assign rfl rfl) ?_
          refine Jp.done hK39 ?_
          refine Cd.ret [] rfl (res1 rfl rfl) trivial ⟨rfl, congrArg (Value.int .u32) (by
            first
            | (exfalso; omega)
            | (rw [bitsP]; repeat first | exact hm | exact or4_u (placeP_lt _ _) (placeP_lt _ _) (placeP_lt _ _) (placeP_lt _ _) | exact bits_or32 (placeP_lt _ _) (placeP_lt _ _) | rfl | rw [if_pos (by omega)] | rw [if_neg (by omega)])), rfl⟩
        · skip
          try simp only [decide_eq_false_iff_not, decide_eq_true_eq, Int.not_lt, Int.not_le, Bool.not_eq_false, Bool.not_eq_true, Bool.not_true, Bool.not_false, Bool.not_eq_true', Bool.not_eq_false', beq_eq_false_iff_ne, ne_eq, beq_iff_eq, bne_iff_ne, bne_eq_false_iff_eq, Classical.not_not] at g36
          refine Cd.seq fun K40 hK40 => ?_
          refine Cd.plain [(0, false), (1, false), (2, false), (3, false), (4, false), (5, false), (6, false)] rfl rfl ?_
          refine Jp.y 63 rfl (want_all rfl) rfl rfl Kp.true (Y.move rfl rfl) ?_
          refine Jp.y 64 rfl (want_all rfl) rfl rfl Kp.true (Y.geq rfl rfl rfl) ?_
          refine Jp.y 65 rfl (want_all rfl) rfl rfl Kp.true (Y.move rfl rfl) ?_
          refine Jp.split 65 rfl (fun g65 => ?_) (fun g65 => ?_)
          · skip
            try simp only [decide_eq_false_iff_not, decide_eq_true_eq, Int.not_lt, Int.not_le, Bool.not_eq_false, Bool.not_eq_true, Bool.not_true, Bool.not_false, Bool.not_eq_true', Bool.not_eq_false', beq_eq_false_iff_ne, ne_eq, beq_iff_eq, bne_iff_ne, bne_eq_false_iff_eq, Classical.not_not] at g65
            refine Jp.y 66 rfl (want_as rfl rfl rfl rfl) rfl rfl Kp.true (Y.move rfl rfl) ?_
            refine Jp.y 67 rfl (want_as rfl rfl rfl rfl) rfl rfl Kp.true (Y.leq rfl rfl rfl) ?_
            refine Jp.y 68 rfl (want_all rfl) rfl rfl Kp.true (Y.pickT rfl rfl rfl) ?_
            refine Jp.y 62 rfl (want_all rfl) rfl rfl Kp.true (Y.assign rfl rfl) ?_
            refine Jp.done hK40 ?_
            refine Cd.cond rfl (fun g62 => ?_) (fun g62 => ?_)
            · skip
              try simp only [decide_eq_false_iff_not, decide_eq_true_eq, Int.not_lt, Int.not_le, Bool.not_eq_false, Bool.not_eq_true, Bool.not_true, Bool.not_false, Bool.not_eq_true', Bool.not_eq_false', beq_eq_false_iff_ne, ne_eq, beq_iff_eq, bne_iff_ne, bne_eq_false_iff_eq, Classical.not_not] at g62
              refine Cd.seq fun K41 hK41 => ?_
              refine Cd.plain [(0, false), (1, false), (2, false), (3, false), (4, false), (5, false), (6, false), (7, false), (8, false)] rfl rfl ?_
              refine Jp.y 69 rfl (want_all rfl) rfl rfl Kp.true (Y.move rfl rfl) ?_
              refine Jp.y 70 rfl (want_all rfl) rfl rfl Kp.true (Y.shr rfl rfl rfl (by first | decide | omega)) ?_
              refine Jp.y 71 rfl (want_all rfl) rfl rfl Kp.true (Y.bits rfl rfl rfl rfl) ?_
              refine Jp.call [] [] (place_spec _ _ (by decide)) 72 rfl (want_all rfl) rfl rfl (Runs.fn rfl Try.call58 rfl) (by decide) (by decide) rfl trivial ?_
              rintro v109 ρ109 L109 ⟨rfl, rfl, rfl⟩
              refine ⟨rfl, fun hle109 => ⟨Kp.true, ?_⟩⟩
              refine Jp.y 73 rfl (want_all rfl) rfl rfl Kp.true (Y.move rfl rfl) ?_
              refine Jp.y 74 rfl (want_all rfl) rfl rfl Kp.true (Y.bits rfl rfl rfl rfl) ?_
              refine Jp.call [] [] (place_spec _ _ (by decide)) 75 rfl (want_all rfl) rfl rfl (Runs.fn rfl Try.call58 rfl) (by decide) (by decide) rfl trivial ?_
              rintro v110 ρ110 L110 ⟨rfl, rfl, rfl⟩
              refine ⟨rfl, fun hle110 => ⟨Kp.true, ?_⟩⟩
              refine Jp.y 76 rfl (want_all rfl) rfl rfl Kp.true (Y.bits rfl rfl rfl rfl) ?_
              refine Jp.y 4 rfl (want_all rfl) rfl rfl Kp.true (Y.assign rfl rfl) ?_
              refine Jp.done hK41 ?_
              refine Cd.ret [] rfl (res1 rfl rfl) trivial ⟨rfl, congrArg (Value.int .u32) (by
                first
                | (exfalso; omega)
                | (rw [bitsP]; repeat first | exact hm | exact or4_u (placeP_lt _ _) (placeP_lt _ _) (placeP_lt _ _) (placeP_lt _ _) | exact bits_or32 (placeP_lt _ _) (placeP_lt _ _) | rfl | rw [if_pos (by omega)] | rw [if_neg (by omega)])), rfl⟩
            · skip
              try simp only [decide_eq_false_iff_not, decide_eq_true_eq, Int.not_lt, Int.not_le, Bool.not_eq_false, Bool.not_eq_true, Bool.not_true, Bool.not_false, Bool.not_eq_true', Bool.not_eq_false', beq_eq_false_iff_ne, ne_eq, beq_iff_eq, bne_iff_ne, bne_eq_false_iff_eq, Classical.not_not] at g62
              refine Cd.seq fun K42 hK42 => ?_
              refine Cd.plain [(0, false), (1, false), (2, false), (3, false), (4, false), (5, false), (6, false)] rfl rfl ?_
              refine Jp.y 78 rfl (want_all rfl) rfl rfl Kp.true (Y.move rfl rfl) ?_
              refine Jp.y 79 rfl (want_all rfl) rfl rfl Kp.true (Y.geq rfl rfl rfl) ?_
              refine Jp.y 80 rfl (want_all rfl) rfl rfl Kp.true (Y.move rfl rfl) ?_
              refine Jp.split 80 rfl (fun g80 => ?_) (fun g80 => ?_)
              · skip
                try simp only [decide_eq_false_iff_not, decide_eq_true_eq, Int.not_lt, Int.not_le, Bool.not_eq_false, Bool.not_eq_true, Bool.not_true, Bool.not_false, Bool.not_eq_true', Bool.not_eq_false', beq_eq_false_iff_ne, ne_eq, beq_iff_eq, bne_iff_ne, bne_eq_false_iff_eq, Classical.not_not] at g80
                refine Jp.y 81 rfl (want_as rfl rfl rfl rfl) rfl rfl Kp.true (Y.move rfl rfl) ?_
                refine Jp.y 82 rfl (want_as rfl rfl rfl rfl) rfl rfl Kp.true (Y.leq rfl rfl rfl) ?_
                refine Jp.y 83 rfl (want_all rfl) rfl rfl Kp.true (Y.pickT rfl rfl rfl) ?_
                refine Jp.y 77 rfl (want_all rfl) rfl rfl Kp.true (Y.assign rfl rfl) ?_
                refine Jp.done hK42 ?_
                refine Cd.cond rfl (fun g77 => ?_) (fun g77 => ?_)
                · skip
                  try simp only [decide_eq_false_iff_not, decide_eq_true_eq, Int.not_lt, Int.not_le, Bool.not_eq_false, Bool.not_eq_true, Bool.not_true, Bool.not_false, Bool.not_eq_true', Bool.not_eq_false', beq_eq_false_iff_ne, ne_eq, beq_iff_eq, bne_iff_ne, bne_eq_false_iff_eq, Classical.not_not] at g77
                  refine Cd.seq fun K43 hK43 => ?_
                  refine Cd.plain [(0, false), (1, false), (2, false), (3, false)] rfl rfl ?_
                  refine Jp.y 84 rfl (want_all rfl) rfl rfl Kp.true (Y.move rfl rfl) ?_
                  refine Jp.y 85 rfl (want_all rfl) rfl rfl Kp.true (Y.bits rfl rfl rfl rfl) ?_
                  refine Jp.call [] [] (place_spec _ _ (by decide)) 86 rfl (want_all rfl) rfl rfl (Runs.fn rfl Try.call58 rfl) (by decide) (by decide) rfl trivial ?_
                  rintro v111 ρ111 L111 ⟨rfl, rfl, rfl⟩
                  refine ⟨rfl, fun hle111 => ⟨Kp.true, ?_⟩⟩
                  refine Jp.y 4 rfl (want_all rfl) rfl rfl Kp.true (Y.assign rfl rfl) ?_
                  refine Jp.done hK43 ?_
                  refine Cd.ret [] rfl (res1 rfl rfl) trivial ⟨rfl, congrArg (Value.int .u32) (by
                    first
                    | (exfalso; omega)
                    | (rw [bitsP]; repeat first | exact hm | exact or4_u (placeP_lt _ _) (placeP_lt _ _) (placeP_lt _ _) (placeP_lt _ _) | exact bits_or32 (placeP_lt _ _) (placeP_lt _ _) | rfl | rw [if_pos (by omega)] | rw [if_neg (by omega)])), rfl⟩
                · skip
                  try simp only [decide_eq_false_iff_not, decide_eq_true_eq, Int.not_lt, Int.not_le, Bool.not_eq_false, Bool.not_eq_true, Bool.not_true, Bool.not_false, Bool.not_eq_true', Bool.not_eq_false', beq_eq_false_iff_ne, ne_eq, beq_iff_eq, bne_iff_ne, bne_eq_false_iff_eq, Classical.not_not] at g77
                  refine Cd.seq fun K44 hK44 => ?_
                  refine Cd.plain [(0, false), (1, false), (2, false)] rfl rfl ?_
                  refine Jp.y 88 rfl (want_all rfl) rfl rfl Kp.true (Y.move rfl rfl) ?_
                  refine Jp.y 89 rfl (want_all rfl) rfl rfl Kp.true (Y.geq rfl rfl rfl) ?_
                  refine Jp.y 87 rfl (want_all rfl) rfl rfl Kp.true (Y.assign rfl rfl) ?_
                  refine Jp.done hK44 ?_
                  refine Cd.cond rfl (fun g87 => ?_) (fun g87 => ?_)
                  · skip
                    try simp only [decide_eq_false_iff_not, decide_eq_true_eq, Int.not_lt, Int.not_le, Bool.not_eq_false, Bool.not_eq_true, Bool.not_true, Bool.not_false, Bool.not_eq_true', Bool.not_eq_false', beq_eq_false_iff_ne, ne_eq, beq_iff_eq, bne_iff_ne, bne_eq_false_iff_eq, Classical.not_not] at g87
                    refine Cd.seq fun K45 hK45 => ?_
                    refine Cd.plain [(0, false)] rfl rfl ?_
                    refine Jp.y 4 rfl (want_all rfl) rfl rfl Kp.true (Y.assign rfl rfl) ?_
                    refine Jp.done hK45 ?_
                    refine Cd.ret [] rfl (res1 rfl rfl) trivial ⟨rfl, congrArg (Value.int .u32) (by
                      first
                      | (exfalso; omega)
                      | (rw [bitsP]; repeat first | exact hm | exact or4_u (placeP_lt _ _) (placeP_lt _ _) (placeP_lt _ _) (placeP_lt _ _) | exact bits_or32 (placeP_lt _ _) (placeP_lt _ _) | rfl | rw [if_pos (by omega)] | rw [if_neg (by omega)])), rfl⟩
                  · skip
                    try simp only [decide_eq_false_iff_not, decide_eq_true_eq, Int.not_lt, Int.not_le, Bool.not_eq_false, Bool.not_eq_true, Bool.not_true, Bool.not_false, Bool.not_eq_true', Bool.not_eq_false', beq_eq_false_iff_ne, ne_eq, beq_iff_eq, bne_iff_ne, bne_eq_false_iff_eq, Classical.not_not] at g87
                    refine Cd.over rfl hK33 ?_
                    refine Cd.seq fun K46 hK46 => ?_
                    refine Cd.plain [(0, false), (1, false), (2, false), (3, false)] rfl rfl ?_
                    refine Jp.y 90 rfl (want_all rfl) rfl rfl Kp.true (Y.move rfl rfl) ?_
                    refine Jp.y 91 rfl (want_all rfl) rfl rfl Kp.true (Y.bits rfl rfl rfl rfl) ?_
                    refine Jp.call [] [] (place_spec _ _ (by decide)) 92 rfl (want_all rfl) rfl rfl (Runs.fn rfl Try.call58 rfl) (by decide) (by decide) rfl trivial ?_
                    rintro v112 ρ112 L112 ⟨rfl, rfl, rfl⟩
                    refine ⟨rfl, fun hle112 => ⟨Kp.true, ?_⟩⟩
                    refine Jp.y 4 rfl (want_all rfl) rfl rfl Kp.true (Y.assign rfl rfl) ?_
                    refine Jp.done hK46 ?_
                    refine Cd.ret [] rfl (res1 rfl rfl) trivial ⟨rfl, congrArg (Value.int .u32) (by
                      first
                      | (exfalso; omega)
                      | (rw [bitsP]; repeat first | exact hm | exact or4_u (placeP_lt _ _) (placeP_lt _ _) (placeP_lt _ _) (placeP_lt _ _) | exact bits_or32 (placeP_lt _ _) (placeP_lt _ _) | rfl | rw [if_pos (by omega)] | rw [if_neg (by omega)])), rfl⟩
              · skip
                try simp only [decide_eq_false_iff_not, decide_eq_true_eq, Int.not_lt, Int.not_le, Bool.not_eq_false, Bool.not_eq_true, Bool.not_true, Bool.not_false, Bool.not_eq_true', Bool.not_eq_false', beq_eq_false_iff_ne, ne_eq, beq_iff_eq, bne_iff_ne, bne_eq_false_iff_eq, Classical.not_not] at g80
                refine Jp.skip 81 rfl (want_as rfl rfl rfl rfl) rfl rfl Kp.true ?_
                refine Jp.skip 82 rfl (want_as rfl rfl rfl rfl) rfl rfl Kp.true ?_
                refine Jp.y 83 rfl (want_all rfl) rfl rfl Kp.true (Y.pickF rfl rfl rfl) ?_
                refine Jp.y 77 rfl (want_all rfl) rfl rfl Kp.true (Y.assign rfl rfl) ?_
                refine Jp.done hK42 ?_
                refine Cd.condF rfl ?_
                refine Cd.seq fun K47 hK47 => ?_
                refine Cd.plain [(0, false), (1, false), (2, false)] rfl rfl ?_
                refine Jp.y 88 rfl (want_all rfl) rfl rfl Kp.true (Y.move rfl rfl) ?_
                refine Jp.y 89 rfl (want_all rfl) rfl rfl Kp.true (Y.geq rfl rfl rfl) ?_
                refine Jp.y 87 rfl (want_all rfl) rfl rfl Kp.true (Y.assign rfl rfl) ?_
                refine Jp.done hK47 ?_
                refine Cd.cond rfl (fun g87 => ?_) (fun g87 => ?_)
                · skip
                  try simp only [decide_eq_false_iff_not, decide_eq_true_eq, Int.not_lt, Int.not_le, Bool.not_eq_false, Bool.not_eq_true, Bool.not_true, Bool.not_false, Bool.not_eq_true', Bool.not_eq_false', beq_eq_false_iff_ne, ne_eq, beq_iff_eq, bne_iff_ne, bne_eq_false_iff_eq, Classical.not_not] at g87
                  refine Cd.seq fun K48 hK48 => ?_
                  refine Cd.plain [(0, false)] rfl rfl ?_
                  refine Jp.y 4 rfl (want_all rfl) rfl rfl Kp.true (Y.assign rfl rfl) ?_
                  refine Jp.done hK48 ?_
                  refine Cd.ret [] rfl (res1 rfl rfl) trivial ⟨rfl, congrArg (Value.int .u32) (by
                    first
                    | (exfalso; omega)
                    | (rw [bitsP]; repeat first | exact hm | exact or4_u (placeP_lt _ _) (placeP_lt _ _) (placeP_lt _ _) (placeP_lt _ _) | exact bits_or32 (placeP_lt _ _) (placeP_lt _ _) | rfl | rw [if_pos (by omega)] | rw [if_neg (by omega)])), rfl⟩
                · skip
                  try simp only [decide_eq_false_iff_not, decide_eq_true_eq, Int.not_lt, Int.not_le, Bool.not_eq_false, Bool.not_eq_true, Bool.not_true, Bool.not_false, Bool.not_eq_true', Bool.not_eq_false', beq_eq_false_iff_ne, ne_eq, beq_iff_eq, bne_iff_ne, bne_eq_false_iff_eq, Classical.not_not] at g87
                  refine Cd.over rfl hK33 ?_
                  refine Cd.seq fun K49 hK49 => ?_
                  refine Cd.plain [(0, false), (1, false), (2, false), (3, false)] rfl rfl ?_
                  refine Jp.y 90 rfl (want_all rfl) rfl rfl Kp.true (Y.move rfl rfl) ?_
                  refine Jp.y 91 rfl (want_all rfl) rfl rfl Kp.true (Y.bits rfl rfl rfl rfl) ?_
                  refine Jp.call [] [] (place_spec _ _ (by decide)) 92 rfl (want_all rfl) rfl rfl (Runs.fn rfl Try.call58 rfl) (by decide) (by decide) rfl trivial ?_
                  rintro v113 ρ113 L113 ⟨rfl, rfl, rfl⟩
                  refine ⟨rfl, fun hle113 => ⟨Kp.true, ?_⟩⟩
                  refine Jp.y 4 rfl (want_all rfl) rfl rfl Kp.true (Y.assign rfl rfl) ?_
                  refine Jp.done hK49 ?_
                  refine Cd.ret [] rfl (res1 rfl rfl) trivial ⟨rfl, congrArg (Value.int .u32) (by
                    first
                    | (exfalso; omega)
                    | (rw [bitsP]; repeat first | exact hm | exact or4_u (placeP_lt _ _) (placeP_lt _ _) (placeP_lt _ _) (placeP_lt _ _) | exact bits_or32 (placeP_lt _ _) (placeP_lt _ _) | rfl | rw [if_pos (by omega)] | rw [if_neg (by omega)])), rfl⟩
          · skip
            try simp only [decide_eq_false_iff_not, decide_eq_true_eq, Int.not_lt, Int.not_le, Bool.not_eq_false, Bool.not_eq_true, Bool.not_true, Bool.not_false, Bool.not_eq_true', Bool.not_eq_false', beq_eq_false_iff_ne, ne_eq, beq_iff_eq, bne_iff_ne, bne_eq_false_iff_eq, Classical.not_not] at g65
            refine Jp.skip 66 rfl (want_as rfl rfl rfl rfl) rfl rfl Kp.true ?_
            refine Jp.skip 67 rfl (want_as rfl rfl rfl rfl) rfl rfl Kp.true ?_
            refine Jp.y 68 rfl (want_all rfl) rfl rfl Kp.true (Y.pickF rfl rfl rfl) ?_
            refine Jp.y 62 rfl (want_all rfl) rfl rfl Kp.true (Y.assign rfl rfl) ?_
            refine Jp.done hK40 ?_
            refine Cd.condF rfl ?_
            refine Cd.seq fun K50 hK50 => ?_
            refine Cd.plain [(0, false), (1, false), (2, false), (3, false), (4, false), (5, false), (6, false)] rfl rfl ?_
            refine Jp.y 78 rfl (want_all rfl) rfl rfl Kp.true (Y.move rfl rfl) ?_
            refine Jp.y 79 rfl (want_all rfl) rfl rfl Kp.true (Y.geq rfl rfl rfl) ?_
            refine Jp.y 80 rfl (want_all rfl) rfl rfl Kp.true (Y.move rfl rfl) ?_
            refine Jp.split 80 rfl (fun g80 => ?_) (fun g80 => ?_)
            · skip
              try simp only [decide_eq_false_iff_not, decide_eq_true_eq, Int.not_lt, Int.not_le, Bool.not_eq_false, Bool.not_eq_true, Bool.not_true, Bool.not_false, Bool.not_eq_true', Bool.not_eq_false', beq_eq_false_iff_ne, ne_eq, beq_iff_eq, bne_iff_ne, bne_eq_false_iff_eq, Classical.not_not] at g80
              refine Jp.y 81 rfl (want_as rfl rfl rfl rfl) rfl rfl Kp.true (Y.move rfl rfl) ?_
              refine Jp.y 82 rfl (want_as rfl rfl rfl rfl) rfl rfl Kp.true (Y.leq rfl rfl rfl) ?_
              refine Jp.y 83 rfl (want_all rfl) rfl rfl Kp.true (Y.pickT rfl rfl rfl) ?_
              refine Jp.y 77 rfl (want_all rfl) rfl rfl Kp.true (Y.assign rfl rfl) ?_
              refine Jp.done hK50 ?_
              refine Cd.cond rfl (fun g77 => ?_) (fun g77 => ?_)
              · skip
                try simp only [decide_eq_false_iff_not, decide_eq_true_eq, Int.not_lt, Int.not_le, Bool.not_eq_false, Bool.not_eq_true, Bool.not_true, Bool.not_false, Bool.not_eq_true', Bool.not_eq_false', beq_eq_false_iff_ne, ne_eq, beq_iff_eq, bne_iff_ne, bne_eq_false_iff_eq, Classical.not_not] at g77
                refine Cd.seq fun K51 hK51 => ?_
                refine Cd.plain [(0, false), (1, false), (2, false), (3, false)] rfl rfl ?_
                refine Jp.y 84 rfl (want_all rfl) rfl rfl Kp.true (Y.move rfl rfl) ?_
                refine Jp.y 85 rfl (want_all rfl) rfl rfl Kp.true (Y.bits rfl rfl rfl rfl) ?_
                refine Jp.call [] [] (place_spec _ _ (by decide)) 86 rfl (want_all rfl) rfl rfl (Runs.fn rfl Try.call58 rfl) (by decide) (by decide) rfl trivial ?_
                rintro v114 ρ114 L114 ⟨rfl, rfl, rfl⟩
                refine ⟨rfl, fun hle114 => ⟨Kp.true, ?_⟩⟩
                refine Jp.y 4 rfl (want_all rfl) rfl rfl Kp.true (Y.assign rfl rfl) ?_
                refine Jp.done hK51 ?_
                refine Cd.ret [] rfl (res1 rfl rfl) trivial ⟨rfl, congrArg (Value.int .u32) (by
                  first
                  | (exfalso; omega)
                  | (rw [bitsP]; repeat first | exact hm | exact or4_u (placeP_lt _ _) (placeP_lt _ _) (placeP_lt _ _) (placeP_lt _ _) | exact bits_or32 (placeP_lt _ _) (placeP_lt _ _) | rfl | rw [if_pos (by omega)] | rw [if_neg (by omega)])), rfl⟩
              · skip
                try simp only [decide_eq_false_iff_not, decide_eq_true_eq, Int.not_lt, Int.not_le, Bool.not_eq_false, Bool.not_eq_true, Bool.not_true, Bool.not_false, Bool.not_eq_true', Bool.not_eq_false', beq_eq_false_iff_ne, ne_eq, beq_iff_eq, bne_iff_ne, bne_eq_false_iff_eq, Classical.not_not] at g77
                refine Cd.seq fun K52 hK52 => ?_
                refine Cd.plain [(0, false), (1, false), (2, false)] rfl rfl ?_
                refine Jp.y 88 rfl (want_all rfl) rfl rfl Kp.true (Y.move rfl rfl) ?_
                refine Jp.y 89 rfl (want_all rfl) rfl rfl Kp.true (Y.geq rfl rfl rfl) ?_
                refine Jp.y 87 rfl (want_all rfl) rfl rfl Kp.true (Y.assign rfl rfl) ?_
                refine Jp.done hK52 ?_
                refine Cd.cond rfl (fun g87 => ?_) (fun g87 => ?_)
                · skip
                  try simp only [decide_eq_false_iff_not, decide_eq_true_eq, Int.not_lt, Int.not_le, Bool.not_eq_false, Bool.not_eq_true, Bool.not_true, Bool.not_false, Bool.not_eq_true', Bool.not_eq_false', beq_eq_false_iff_ne, ne_eq, beq_iff_eq, bne_iff_ne, bne_eq_false_iff_eq, Classical.not_not] at g87
                  refine Cd.seq fun K53 hK53 => ?_
                  refine Cd.plain [(0, false)] rfl rfl ?_
                  refine Jp.y 4 rfl (want_all rfl) rfl rfl Kp.true (Y.assign rfl rfl) ?_
                  refine Jp.done hK53 ?_
                  refine Cd.ret [] rfl (res1 rfl rfl) trivial ⟨rfl, congrArg (Value.int .u32) (by
                    first
                    | (exfalso; omega)
                    | (rw [bitsP]; repeat first | exact hm | exact or4_u (placeP_lt _ _) (placeP_lt _ _) (placeP_lt _ _) (placeP_lt _ _) | exact bits_or32 (placeP_lt _ _) (placeP_lt _ _) | rfl | rw [if_pos (by omega)] | rw [if_neg (by omega)])), rfl⟩
                · skip
                  try simp only [decide_eq_false_iff_not, decide_eq_true_eq, Int.not_lt, Int.not_le, Bool.not_eq_false, Bool.not_eq_true, Bool.not_true, Bool.not_false, Bool.not_eq_true', Bool.not_eq_false', beq_eq_false_iff_ne, ne_eq, beq_iff_eq, bne_iff_ne, bne_eq_false_iff_eq, Classical.not_not] at g87
                  refine Cd.over rfl hK33 ?_
                  refine Cd.seq fun K54 hK54 => ?_
                  refine Cd.plain [(0, false), (1, false), (2, false), (3, false)] rfl rfl ?_
                  refine Jp.y 90 rfl (want_all rfl) rfl rfl Kp.true (Y.move rfl rfl) ?_
                  refine Jp.y 91 rfl (want_all rfl) rfl rfl Kp.true (Y.bits rfl rfl rfl rfl) ?_
                  refine Jp.call [] [] (place_spec _ _ (by decide)) 92 rfl (want_all rfl) rfl rfl (Runs.fn rfl Try.call58 rfl) (by decide) (by decide) rfl trivial ?_
                  rintro v115 ρ115 L115 ⟨rfl, rfl, rfl⟩
                  refine ⟨rfl, fun hle115 => ⟨Kp.true, ?_⟩⟩
                  refine Jp.y 4 rfl (want_all rfl) rfl rfl Kp.true (Y.assign rfl rfl) ?_
                  refine Jp.done hK54 ?_
                  refine Cd.ret [] rfl (res1 rfl rfl) trivial ⟨rfl, congrArg (Value.int .u32) (by
                    first
                    | (exfalso; omega)
                    | (rw [bitsP]; repeat first | exact hm | exact or4_u (placeP_lt _ _) (placeP_lt _ _) (placeP_lt _ _) (placeP_lt _ _) | exact bits_or32 (placeP_lt _ _) (placeP_lt _ _) | rfl | rw [if_pos (by omega)] | rw [if_neg (by omega)])), rfl⟩
            · skip
              try simp only [decide_eq_false_iff_not, decide_eq_true_eq, Int.not_lt, Int.not_le, Bool.not_eq_false, Bool.not_eq_true, Bool.not_true, Bool.not_false, Bool.not_eq_true', Bool.not_eq_false', beq_eq_false_iff_ne, ne_eq, beq_iff_eq, bne_iff_ne, bne_eq_false_iff_eq, Classical.not_not] at g80
              refine Jp.skip 81 rfl (want_as rfl rfl rfl rfl) rfl rfl Kp.true ?_
              refine Jp.skip 82 rfl (want_as rfl rfl rfl rfl) rfl rfl Kp.true ?_
              refine Jp.y 83 rfl (want_all rfl) rfl rfl Kp.true (Y.pickF rfl rfl rfl) ?_
              refine Jp.y 77 rfl (want_all rfl) rfl rfl Kp.true (Y.assign rfl rfl) ?_
              refine Jp.done hK50 ?_
              refine Cd.condF rfl ?_
              refine Cd.seq fun K55 hK55 => ?_
              refine Cd.plain [(0, false), (1, false), (2, false)] rfl rfl ?_
              refine Jp.y 88 rfl (want_all rfl) rfl rfl Kp.true (Y.move rfl rfl) ?_
              refine Jp.y 89 rfl (want_all rfl) rfl rfl Kp.true (Y.geq rfl rfl rfl) ?_
              refine Jp.y 87 rfl (want_all rfl) rfl rfl Kp.true (Y.assign rfl rfl) ?_
              refine Jp.done hK55 ?_
              refine Cd.cond rfl (fun g87 => ?_) (fun g87 => ?_)
              · skip
                try simp only [decide_eq_false_iff_not, decide_eq_true_eq, Int.not_lt, Int.not_le, Bool.not_eq_false, Bool.not_eq_true, Bool.not_true, Bool.not_false, Bool.not_eq_true', Bool.not_eq_false', beq_eq_false_iff_ne, ne_eq, beq_iff_eq, bne_iff_ne, bne_eq_false_iff_eq, Classical.not_not] at g87
                refine Cd.seq fun K56 hK56 => ?_
                refine Cd.plain [(0, false)] rfl rfl ?_
                refine Jp.y 4 rfl (want_all rfl) rfl rfl Kp.true (Y.assign rfl rfl) ?_
                refine Jp.done hK56 ?_
                refine Cd.ret [] rfl (res1 rfl rfl) trivial ⟨rfl, congrArg (Value.int .u32) (by
                  first
                  | (exfalso; omega)
                  | (rw [bitsP]; repeat first | exact hm | exact or4_u (placeP_lt _ _) (placeP_lt _ _) (placeP_lt _ _) (placeP_lt _ _) | exact bits_or32 (placeP_lt _ _) (placeP_lt _ _) | rfl | rw [if_pos (by omega)] | rw [if_neg (by omega)])), rfl⟩
              · skip
                try simp only [decide_eq_false_iff_not, decide_eq_true_eq, Int.not_lt, Int.not_le, Bool.not_eq_false, Bool.not_eq_true, Bool.not_true, Bool.not_false, Bool.not_eq_true', Bool.not_eq_false', beq_eq_false_iff_ne, ne_eq, beq_iff_eq, bne_iff_ne, bne_eq_false_iff_eq, Classical.not_not] at g87
                refine Cd.over rfl hK33 ?_
                refine Cd.seq fun K57 hK57 => ?_
                refine Cd.plain [(0, false), (1, false), (2, false), (3, false)] rfl rfl ?_
                refine Jp.y 90 rfl (want_all rfl) rfl rfl Kp.true (Y.move rfl rfl) ?_
                refine Jp.y 91 rfl (want_all rfl) rfl rfl Kp.true (Y.bits rfl rfl rfl rfl) ?_
                refine Jp.call [] [] (place_spec _ _ (by decide)) 92 rfl (want_all rfl) rfl rfl (Runs.fn rfl Try.call58 rfl) (by decide) (by decide) rfl trivial ?_
                rintro v116 ρ116 L116 ⟨rfl, rfl, rfl⟩
                refine ⟨rfl, fun hle116 => ⟨Kp.true, ?_⟩⟩
                refine Jp.y 4 rfl (want_all rfl) rfl rfl Kp.true (Y.assign rfl rfl) ?_
                refine Jp.done hK57 ?_
                refine Cd.ret [] rfl (res1 rfl rfl) trivial ⟨rfl, congrArg (Value.int .u32) (by
                  first
                  | (exfalso; omega)
                  | (rw [bitsP]; repeat first | exact hm | exact or4_u (placeP_lt _ _) (placeP_lt _ _) (placeP_lt _ _) (placeP_lt _ _) | exact bits_or32 (placeP_lt _ _) (placeP_lt _ _) | rfl | rw [if_pos (by omega)] | rw [if_neg (by omega)])), rfl⟩
      · skip
        try simp only [decide_eq_false_iff_not, decide_eq_true_eq, Int.not_lt, Int.not_le, Bool.not_eq_false, Bool.not_eq_true, Bool.not_true, Bool.not_false, Bool.not_eq_true', Bool.not_eq_false', beq_eq_false_iff_ne, ne_eq, beq_iff_eq, bne_iff_ne, bne_eq_false_iff_eq, Classical.not_not] at g39
        refine Jp.skip 40 rfl (want_as rfl rfl rfl rfl) rfl rfl Kp.true ?_
        refine Jp.skip 41 rfl (want_as rfl rfl rfl rfl) rfl rfl Kp.true ?_
        refine Jp.y 42 rfl (want_all rfl) rfl rfl Kp.true (Y.pickF rfl rfl rfl) ?_
        refine Jp.y 36 rfl (want_all rfl) rfl rfl Kp.true (Y.assign rfl rfl) ?_
        refine Jp.done hK38 ?_
        refine Cd.condF rfl ?_
        refine Cd.seq fun K58 hK58 => ?_
        refine Cd.plain [(0, false), (1, false), (2, false), (3, false), (4, false), (5, false), (6, false)] rfl rfl ?_
        refine Jp.y 63 rfl (want_all rfl) rfl rfl Kp.true (Y.move rfl rfl) ?_
        refine Jp.y 64 rfl (want_all rfl) rfl rfl Kp.true (Y.geq rfl rfl rfl) ?_
        refine Jp.y 65 rfl (want_all rfl) rfl rfl Kp.true (Y.move rfl rfl) ?_
        refine Jp.split 65 rfl (fun g65 => ?_) (fun g65 => ?_)
        · skip
          try simp only [decide_eq_false_iff_not, decide_eq_true_eq, Int.not_lt, Int.not_le, Bool.not_eq_false, Bool.not_eq_true, Bool.not_true, Bool.not_false, Bool.not_eq_true', Bool.not_eq_false', beq_eq_false_iff_ne, ne_eq, beq_iff_eq, bne_iff_ne, bne_eq_false_iff_eq, Classical.not_not] at g65
          refine Jp.y 66 rfl (want_as rfl rfl rfl rfl) rfl rfl Kp.true (Y.move rfl rfl) ?_
          refine Jp.y 67 rfl (want_as rfl rfl rfl rfl) rfl rfl Kp.true (Y.leq rfl rfl rfl) ?_
          refine Jp.y 68 rfl (want_all rfl) rfl rfl Kp.true (Y.pickT rfl rfl rfl) ?_
          refine Jp.y 62 rfl (want_all rfl) rfl rfl Kp.true (Y.assign rfl rfl) ?_
          refine Jp.done hK58 ?_
          refine Cd.cond rfl (fun g62 => ?_) (fun g62 => ?_)
          · skip
            try simp only [decide_eq_false_iff_not, decide_eq_true_eq, Int.not_lt, Int.not_le, Bool.not_eq_false, Bool.not_eq_true, Bool.not_true, Bool.not_false, Bool.not_eq_true', Bool.not_eq_false', beq_eq_false_iff_ne, ne_eq, beq_iff_eq, bne_iff_ne, bne_eq_false_iff_eq, Classical.not_not] at g62
            refine Cd.seq fun K59 hK59 => ?_
            refine Cd.plain [(0, false), (1, false), (2, false), (3, false), (4, false), (5, false), (6, false), (7, false), (8, false)] rfl rfl ?_
            refine Jp.y 69 rfl (want_all rfl) rfl rfl Kp.true (Y.move rfl rfl) ?_
            refine Jp.y 70 rfl (want_all rfl) rfl rfl Kp.true (Y.shr rfl rfl rfl (by first | decide | omega)) ?_
            refine Jp.y 71 rfl (want_all rfl) rfl rfl Kp.true (Y.bits rfl rfl rfl rfl) ?_
            refine Jp.call [] [] (place_spec _ _ (by decide)) 72 rfl (want_all rfl) rfl rfl (Runs.fn rfl Try.call58 rfl) (by decide) (by decide) rfl trivial ?_
            rintro v117 ρ117 L117 ⟨rfl, rfl, rfl⟩
            refine ⟨rfl, fun hle117 => ⟨Kp.true, ?_⟩⟩
            refine Jp.y 73 rfl (want_all rfl) rfl rfl Kp.true (Y.move rfl rfl) ?_
            refine Jp.y 74 rfl (want_all rfl) rfl rfl Kp.true (Y.bits rfl rfl rfl rfl) ?_
            refine Jp.call [] [] (place_spec _ _ (by decide)) 75 rfl (want_all rfl) rfl rfl (Runs.fn rfl Try.call58 rfl) (by decide) (by decide) rfl trivial ?_
            rintro v118 ρ118 L118 ⟨rfl, rfl, rfl⟩
            refine ⟨rfl, fun hle118 => ⟨Kp.true, ?_⟩⟩
            refine Jp.y 76 rfl (want_all rfl) rfl rfl Kp.true (Y.bits rfl rfl rfl rfl) ?_
            refine Jp.y 4 rfl (want_all rfl) rfl rfl Kp.true (Y.assign rfl rfl) ?_
            refine Jp.done hK59 ?_
            refine Cd.ret [] rfl (res1 rfl rfl) trivial ⟨rfl, congrArg (Value.int .u32) (by
              first
              | (exfalso; omega)
              | (rw [bitsP]; repeat first | exact hm | exact or4_u (placeP_lt _ _) (placeP_lt _ _) (placeP_lt _ _) (placeP_lt _ _) | exact bits_or32 (placeP_lt _ _) (placeP_lt _ _) | rfl | rw [if_pos (by omega)] | rw [if_neg (by omega)])), rfl⟩
          · skip
            try simp only [decide_eq_false_iff_not, decide_eq_true_eq, Int.not_lt, Int.not_le, Bool.not_eq_false, Bool.not_eq_true, Bool.not_true, Bool.not_false, Bool.not_eq_true', Bool.not_eq_false', beq_eq_false_iff_ne, ne_eq, beq_iff_eq, bne_iff_ne, bne_eq_false_iff_eq, Classical.not_not] at g62
            refine Cd.seq fun K60 hK60 => ?_
            refine Cd.plain [(0, false), (1, false), (2, false), (3, false), (4, false), (5, false), (6, false)] rfl rfl ?_
            refine Jp.y 78 rfl (want_all rfl) rfl rfl Kp.true (Y.move rfl rfl) ?_
            refine Jp.y 79 rfl (want_all rfl) rfl rfl Kp.true (Y.geq rfl rfl rfl) ?_
            refine Jp.y 80 rfl (want_all rfl) rfl rfl Kp.true (Y.move rfl rfl) ?_
            refine Jp.split 80 rfl (fun g80 => ?_) (fun g80 => ?_)
            · skip
              try simp only [decide_eq_false_iff_not, decide_eq_true_eq, Int.not_lt, Int.not_le, Bool.not_eq_false, Bool.not_eq_true, Bool.not_true, Bool.not_false, Bool.not_eq_true', Bool.not_eq_false', beq_eq_false_iff_ne, ne_eq, beq_iff_eq, bne_iff_ne, bne_eq_false_iff_eq, Classical.not_not] at g80
              refine Jp.y 81 rfl (want_as rfl rfl rfl rfl) rfl rfl Kp.true (Y.move rfl rfl) ?_
              refine Jp.y 82 rfl (want_as rfl rfl rfl rfl) rfl rfl Kp.true (Y.leq rfl rfl rfl) ?_
              refine Jp.y 83 rfl (want_all rfl) rfl rfl Kp.true (Y.pickT rfl rfl rfl) ?_
              refine Jp.y 77 rfl (want_all rfl) rfl rfl Kp.true (Y.assign rfl rfl) ?_
              refine Jp.done hK60 ?_
              refine Cd.cond rfl (fun g77 => ?_) (fun g77 => ?_)
              · skip
                try simp only [decide_eq_false_iff_not, decide_eq_true_eq, Int.not_lt, Int.not_le, Bool.not_eq_false, Bool.not_eq_true, Bool.not_true, Bool.not_false, Bool.not_eq_true', Bool.not_eq_false', beq_eq_false_iff_ne, ne_eq, beq_iff_eq, bne_iff_ne, bne_eq_false_iff_eq, Classical.not_not] at g77
                refine Cd.seq fun K61 hK61 => ?_
                refine Cd.plain [(0, false), (1, false), (2, false), (3, false)] rfl rfl ?_
                refine Jp.y 84 rfl (want_all rfl) rfl rfl Kp.true (Y.move rfl rfl) ?_
                refine Jp.y 85 rfl (want_all rfl) rfl rfl Kp.true (Y.bits rfl rfl rfl rfl) ?_
                refine Jp.call [] [] (place_spec _ _ (by decide)) 86 rfl (want_all rfl) rfl rfl (Runs.fn rfl Try.call58 rfl) (by decide) (by decide) rfl trivial ?_
                rintro v119 ρ119 L119 ⟨rfl, rfl, rfl⟩
                refine ⟨rfl, fun hle119 => ⟨Kp.true, ?_⟩⟩
                refine Jp.y 4 rfl (want_all rfl) rfl rfl Kp.true (Y.assign rfl rfl) ?_
                refine Jp.done hK61 ?_
                refine Cd.ret [] rfl (res1 rfl rfl) trivial ⟨rfl, congrArg (Value.int .u32) (by
                  first
                  | (exfalso; omega)
                  | (rw [bitsP]; repeat first | exact hm | exact or4_u (placeP_lt _ _) (placeP_lt _ _) (placeP_lt _ _) (placeP_lt _ _) | exact bits_or32 (placeP_lt _ _) (placeP_lt _ _) | rfl | rw [if_pos (by omega)] | rw [if_neg (by omega)])), rfl⟩
              · skip
                try simp only [decide_eq_false_iff_not, decide_eq_true_eq, Int.not_lt, Int.not_le, Bool.not_eq_false, Bool.not_eq_true, Bool.not_true, Bool.not_false, Bool.not_eq_true', Bool.not_eq_false', beq_eq_false_iff_ne, ne_eq, beq_iff_eq, bne_iff_ne, bne_eq_false_iff_eq, Classical.not_not] at g77
                refine Cd.seq fun K62 hK62 => ?_
                refine Cd.plain [(0, false), (1, false), (2, false)] rfl rfl ?_
                refine Jp.y 88 rfl (want_all rfl) rfl rfl Kp.true (Y.move rfl rfl) ?_
                refine Jp.y 89 rfl (want_all rfl) rfl rfl Kp.true (Y.geq rfl rfl rfl) ?_
                refine Jp.y 87 rfl (want_all rfl) rfl rfl Kp.true (Y.assign rfl rfl) ?_
                refine Jp.done hK62 ?_
                refine Cd.cond rfl (fun g87 => ?_) (fun g87 => ?_)
                · skip
                  try simp only [decide_eq_false_iff_not, decide_eq_true_eq, Int.not_lt, Int.not_le, Bool.not_eq_false, Bool.not_eq_true, Bool.not_true, Bool.not_false, Bool.not_eq_true', Bool.not_eq_false', beq_eq_false_iff_ne, ne_eq, beq_iff_eq, bne_iff_ne, bne_eq_false_iff_eq, Classical.not_not] at g87
                  refine Cd.seq fun K63 hK63 => ?_
                  refine Cd.plain [(0, false)] rfl rfl ?_
                  refine Jp.y 4 rfl (want_all rfl) rfl rfl Kp.true (Y.assign rfl rfl) ?_
                  refine Jp.done hK63 ?_
                  refine Cd.ret [] rfl (res1 rfl rfl) trivial ⟨rfl, congrArg (Value.int .u32) (by
                    first
                    | (exfalso; omega)
                    | (rw [bitsP]; repeat first | exact hm | exact or4_u (placeP_lt _ _) (placeP_lt _ _) (placeP_lt _ _) (placeP_lt _ _) | exact bits_or32 (placeP_lt _ _) (placeP_lt _ _) | rfl | rw [if_pos (by omega)] | rw [if_neg (by omega)])), rfl⟩
                · skip
                  try simp only [decide_eq_false_iff_not, decide_eq_true_eq, Int.not_lt, Int.not_le, Bool.not_eq_false, Bool.not_eq_true, Bool.not_true, Bool.not_false, Bool.not_eq_true', Bool.not_eq_false', beq_eq_false_iff_ne, ne_eq, beq_iff_eq, bne_iff_ne, bne_eq_false_iff_eq, Classical.not_not] at g87
                  refine Cd.over rfl hK33 ?_
                  refine Cd.seq fun K64 hK64 => ?_
                  refine Cd.plain [(0, false), (1, false), (2, false), (3, false)] rfl rfl ?_
                  refine Jp.y 90 rfl (want_all rfl) rfl rfl Kp.true (Y.move rfl rfl) ?_
                  refine Jp.y 91 rfl (want_all rfl) rfl rfl Kp.true (Y.bits rfl rfl rfl rfl) ?_
                  refine Jp.call [] [] (place_spec _ _ (by decide)) 92 rfl (want_all rfl) rfl rfl (Runs.fn rfl Try.call58 rfl) (by decide) (by decide) rfl trivial ?_
                  rintro v120 ρ120 L120 ⟨rfl, rfl, rfl⟩
                  refine ⟨rfl, fun hle120 => ⟨Kp.true, ?_⟩⟩
                  refine Jp.y 4 rfl (want_all rfl) rfl rfl Kp.true (Y.assign rfl rfl) ?_
                  refine Jp.done hK64 ?_
                  refine Cd.ret [] rfl (res1 rfl rfl) trivial ⟨rfl, congrArg (Value.int .u32) (by
                    first
                    | (exfalso; omega)
                    | (rw [bitsP]; repeat first | exact hm | exact or4_u (placeP_lt _ _) (placeP_lt _ _) (placeP_lt _ _) (placeP_lt _ _) | exact bits_or32 (placeP_lt _ _) (placeP_lt _ _) | rfl | rw [if_pos (by omega)] | rw [if_neg (by omega)])), rfl⟩
            · skip
              try simp only [decide_eq_false_iff_not, decide_eq_true_eq, Int.not_lt, Int.not_le, Bool.not_eq_false, Bool.not_eq_true, Bool.not_true, Bool.not_false, Bool.not_eq_true', Bool.not_eq_false', beq_eq_false_iff_ne, ne_eq, beq_iff_eq, bne_iff_ne, bne_eq_false_iff_eq, Classical.not_not] at g80
              refine Jp.skip 81 rfl (want_as rfl rfl rfl rfl) rfl rfl Kp.true ?_
              refine Jp.skip 82 rfl (want_as rfl rfl rfl rfl) rfl rfl Kp.true ?_
              refine Jp.y 83 rfl (want_all rfl) rfl rfl Kp.true (Y.pickF rfl rfl rfl) ?_
              refine Jp.y 77 rfl (want_all rfl) rfl rfl Kp.true (Y.assign rfl rfl) ?_
              refine Jp.done hK60 ?_
              refine Cd.condF rfl ?_
              refine Cd.seq fun K65 hK65 => ?_
              refine Cd.plain [(0, false), (1, false), (2, false)] rfl rfl ?_
              refine Jp.y 88 rfl (want_all rfl) rfl rfl Kp.true (Y.move rfl rfl) ?_
              refine Jp.y 89 rfl (want_all rfl) rfl rfl Kp.true (Y.geq rfl rfl rfl) ?_
              refine Jp.y 87 rfl (want_all rfl) rfl rfl Kp.true (Y.assign rfl rfl) ?_
              refine Jp.done hK65 ?_
              refine Cd.cond rfl (fun g87 => ?_) (fun g87 => ?_)
              · skip
                try simp only [decide_eq_false_iff_not, decide_eq_true_eq, Int.not_lt, Int.not_le, Bool.not_eq_false, Bool.not_eq_true, Bool.not_true, Bool.not_false, Bool.not_eq_true', Bool.not_eq_false', beq_eq_false_iff_ne, ne_eq, beq_iff_eq, bne_iff_ne, bne_eq_false_iff_eq, Classical.not_not] at g87
                refine Cd.seq fun K66 hK66 => ?_
                refine Cd.plain [(0, false)] rfl rfl ?_
                refine Jp.y 4 rfl (want_all rfl) rfl rfl Kp.true (Y.assign rfl rfl) ?_
                refine Jp.done hK66 ?_
                refine Cd.ret [] rfl (res1 rfl rfl) trivial ⟨rfl, congrArg (Value.int .u32) (by
                  first
                  | (exfalso; omega)
                  | (rw [bitsP]; repeat first | exact hm | exact or4_u (placeP_lt _ _) (placeP_lt _ _) (placeP_lt _ _) (placeP_lt _ _) | exact bits_or32 (placeP_lt _ _) (placeP_lt _ _) | rfl | rw [if_pos (by omega)] | rw [if_neg (by omega)])), rfl⟩
              · skip
                try simp only [decide_eq_false_iff_not, decide_eq_true_eq, Int.not_lt, Int.not_le, Bool.not_eq_false, Bool.not_eq_true, Bool.not_true, Bool.not_false, Bool.not_eq_true', Bool.not_eq_false', beq_eq_false_iff_ne, ne_eq, beq_iff_eq, bne_iff_ne, bne_eq_false_iff_eq, Classical.not_not] at g87
                refine Cd.over rfl hK33 ?_
                refine Cd.seq fun K67 hK67 => ?_
                refine Cd.plain [(0, false), (1, false), (2, false), (3, false)] rfl rfl ?_
                refine Jp.y 90 rfl (want_all rfl) rfl rfl Kp.true (Y.move rfl rfl) ?_
                refine Jp.y 91 rfl (want_all rfl) rfl rfl Kp.true (Y.bits rfl rfl rfl rfl) ?_
                refine Jp.call [] [] (place_spec _ _ (by decide)) 92 rfl (want_all rfl) rfl rfl (Runs.fn rfl Try.call58 rfl) (by decide) (by decide) rfl trivial ?_
                rintro v121 ρ121 L121 ⟨rfl, rfl, rfl⟩
                refine ⟨rfl, fun hle121 => ⟨Kp.true, ?_⟩⟩
                refine Jp.y 4 rfl (want_all rfl) rfl rfl Kp.true (Y.assign rfl rfl) ?_
                refine Jp.done hK67 ?_
                refine Cd.ret [] rfl (res1 rfl rfl) trivial ⟨rfl, congrArg (Value.int .u32) (by
                  first
                  | (exfalso; omega)
                  | (rw [bitsP]; repeat first | exact hm | exact or4_u (placeP_lt _ _) (placeP_lt _ _) (placeP_lt _ _) (placeP_lt _ _) | exact bits_or32 (placeP_lt _ _) (placeP_lt _ _) | rfl | rw [if_pos (by omega)] | rw [if_neg (by omega)])), rfl⟩
        · skip
          try simp only [decide_eq_false_iff_not, decide_eq_true_eq, Int.not_lt, Int.not_le, Bool.not_eq_false, Bool.not_eq_true, Bool.not_true, Bool.not_false, Bool.not_eq_true', Bool.not_eq_false', beq_eq_false_iff_ne, ne_eq, beq_iff_eq, bne_iff_ne, bne_eq_false_iff_eq, Classical.not_not] at g65
          refine Jp.skip 66 rfl (want_as rfl rfl rfl rfl) rfl rfl Kp.true ?_
          refine Jp.skip 67 rfl (want_as rfl rfl rfl rfl) rfl rfl Kp.true ?_
          refine Jp.y 68 rfl (want_all rfl) rfl rfl Kp.true (Y.pickF rfl rfl rfl) ?_
          refine Jp.y 62 rfl (want_all rfl) rfl rfl Kp.true (Y.assign rfl rfl) ?_
          refine Jp.done hK58 ?_
          refine Cd.condF rfl ?_
          refine Cd.seq fun K68 hK68 => ?_
          refine Cd.plain [(0, false), (1, false), (2, false), (3, false), (4, false), (5, false), (6, false)] rfl rfl ?_
          refine Jp.y 78 rfl (want_all rfl) rfl rfl Kp.true (Y.move rfl rfl) ?_
          refine Jp.y 79 rfl (want_all rfl) rfl rfl Kp.true (Y.geq rfl rfl rfl) ?_
          refine Jp.y 80 rfl (want_all rfl) rfl rfl Kp.true (Y.move rfl rfl) ?_
          refine Jp.split 80 rfl (fun g80 => ?_) (fun g80 => ?_)
          · skip
            try simp only [decide_eq_false_iff_not, decide_eq_true_eq, Int.not_lt, Int.not_le, Bool.not_eq_false, Bool.not_eq_true, Bool.not_true, Bool.not_false, Bool.not_eq_true', Bool.not_eq_false', beq_eq_false_iff_ne, ne_eq, beq_iff_eq, bne_iff_ne, bne_eq_false_iff_eq, Classical.not_not] at g80
            refine Jp.y 81 rfl (want_as rfl rfl rfl rfl) rfl rfl Kp.true (Y.move rfl rfl) ?_
            refine Jp.y 82 rfl (want_as rfl rfl rfl rfl) rfl rfl Kp.true (Y.leq rfl rfl rfl) ?_
            refine Jp.y 83 rfl (want_all rfl) rfl rfl Kp.true (Y.pickT rfl rfl rfl) ?_
            refine Jp.y 77 rfl (want_all rfl) rfl rfl Kp.true (Y.assign rfl rfl) ?_
            refine Jp.done hK68 ?_
            refine Cd.cond rfl (fun g77 => ?_) (fun g77 => ?_)
            · skip
              try simp only [decide_eq_false_iff_not, decide_eq_true_eq, Int.not_lt, Int.not_le, Bool.not_eq_false, Bool.not_eq_true, Bool.not_true, Bool.not_false, Bool.not_eq_true', Bool.not_eq_false', beq_eq_false_iff_ne, ne_eq, beq_iff_eq, bne_iff_ne, bne_eq_false_iff_eq, Classical.not_not] at g77
              refine Cd.seq fun K69 hK69 => ?_
              refine Cd.plain [(0, false), (1, false), (2, false), (3, false)] rfl rfl ?_
              refine Jp.y 84 rfl (want_all rfl) rfl rfl Kp.true (Y.move rfl rfl) ?_
              refine Jp.y 85 rfl (want_all rfl) rfl rfl Kp.true (Y.bits rfl rfl rfl rfl) ?_
              refine Jp.call [] [] (place_spec _ _ (by decide)) 86 rfl (want_all rfl) rfl rfl (Runs.fn rfl Try.call58 rfl) (by decide) (by decide) rfl trivial ?_
              rintro v122 ρ122 L122 ⟨rfl, rfl, rfl⟩
              refine ⟨rfl, fun hle122 => ⟨Kp.true, ?_⟩⟩
              refine Jp.y 4 rfl (want_all rfl) rfl rfl Kp.true (Y.assign rfl rfl) ?_
              refine Jp.done hK69 ?_
              refine Cd.ret [] rfl (res1 rfl rfl) trivial ⟨rfl, congrArg (Value.int .u32) (by
                first
                | (exfalso; omega)
                | (rw [bitsP]; repeat first | exact hm | exact or4_u (placeP_lt _ _) (placeP_lt _ _) (placeP_lt _ _) (placeP_lt _ _) | exact bits_or32 (placeP_lt _ _) (placeP_lt _ _) | rfl | rw [if_pos (by omega)] | rw [if_neg (by omega)])), rfl⟩
            · skip
              try simp only [decide_eq_false_iff_not, decide_eq_true_eq, Int.not_lt, Int.not_le, Bool.not_eq_false, Bool.not_eq_true, Bool.not_true, Bool.not_false, Bool.not_eq_true', Bool.not_eq_false', beq_eq_false_iff_ne, ne_eq, beq_iff_eq, bne_iff_ne, bne_eq_false_iff_eq, Classical.not_not] at g77
              refine Cd.seq fun K70 hK70 => ?_
              refine Cd.plain [(0, false), (1, false), (2, false)] rfl rfl ?_
              refine Jp.y 88 rfl (want_all rfl) rfl rfl Kp.true (Y.move rfl rfl) ?_
              refine Jp.y 89 rfl (want_all rfl) rfl rfl Kp.true (Y.geq rfl rfl rfl) ?_
              refine Jp.y 87 rfl (want_all rfl) rfl rfl Kp.true (Y.assign rfl rfl) ?_
              refine Jp.done hK70 ?_
              refine Cd.cond rfl (fun g87 => ?_) (fun g87 => ?_)
              · skip
                try simp only [decide_eq_false_iff_not, decide_eq_true_eq, Int.not_lt, Int.not_le, Bool.not_eq_false, Bool.not_eq_true, Bool.not_true, Bool.not_false, Bool.not_eq_true', Bool.not_eq_false', beq_eq_false_iff_ne, ne_eq, beq_iff_eq, bne_iff_ne, bne_eq_false_iff_eq, Classical.not_not] at g87
                refine Cd.seq fun K71 hK71 => ?_
                refine Cd.plain [(0, false)] rfl rfl ?_
                refine Jp.y 4 rfl (want_all rfl) rfl rfl Kp.true (Y.assign rfl rfl) ?_
                refine Jp.done hK71 ?_
                refine Cd.ret [] rfl (res1 rfl rfl) trivial ⟨rfl, congrArg (Value.int .u32) (by
                  first
                  | (exfalso; omega)
                  | (rw [bitsP]; repeat first | exact hm | exact or4_u (placeP_lt _ _) (placeP_lt _ _) (placeP_lt _ _) (placeP_lt _ _) | exact bits_or32 (placeP_lt _ _) (placeP_lt _ _) | rfl | rw [if_pos (by omega)] | rw [if_neg (by omega)])), rfl⟩
              · skip
                try simp only [decide_eq_false_iff_not, decide_eq_true_eq, Int.not_lt, Int.not_le, Bool.not_eq_false, Bool.not_eq_true, Bool.not_true, Bool.not_false, Bool.not_eq_true', Bool.not_eq_false', beq_eq_false_iff_ne, ne_eq, beq_iff_eq, bne_iff_ne, bne_eq_false_iff_eq, Classical.not_not] at g87
                refine Cd.over rfl hK33 ?_
                refine Cd.seq fun K72 hK72 => ?_
                refine Cd.plain [(0, false), (1, false), (2, false), (3, false)] rfl rfl ?_
                refine Jp.y 90 rfl (want_all rfl) rfl rfl Kp.true (Y.move rfl rfl) ?_
                refine Jp.y 91 rfl (want_all rfl) rfl rfl Kp.true (Y.bits rfl rfl rfl rfl) ?_
                refine Jp.call [] [] (place_spec _ _ (by decide)) 92 rfl (want_all rfl) rfl rfl (Runs.fn rfl Try.call58 rfl) (by decide) (by decide) rfl trivial ?_
                rintro v123 ρ123 L123 ⟨rfl, rfl, rfl⟩
                refine ⟨rfl, fun hle123 => ⟨Kp.true, ?_⟩⟩
                refine Jp.y 4 rfl (want_all rfl) rfl rfl Kp.true (Y.assign rfl rfl) ?_
                refine Jp.done hK72 ?_
                refine Cd.ret [] rfl (res1 rfl rfl) trivial ⟨rfl, congrArg (Value.int .u32) (by
                  first
                  | (exfalso; omega)
                  | (rw [bitsP]; repeat first | exact hm | exact or4_u (placeP_lt _ _) (placeP_lt _ _) (placeP_lt _ _) (placeP_lt _ _) | exact bits_or32 (placeP_lt _ _) (placeP_lt _ _) | rfl | rw [if_pos (by omega)] | rw [if_neg (by omega)])), rfl⟩
          · skip
            try simp only [decide_eq_false_iff_not, decide_eq_true_eq, Int.not_lt, Int.not_le, Bool.not_eq_false, Bool.not_eq_true, Bool.not_true, Bool.not_false, Bool.not_eq_true', Bool.not_eq_false', beq_eq_false_iff_ne, ne_eq, beq_iff_eq, bne_iff_ne, bne_eq_false_iff_eq, Classical.not_not] at g80
            refine Jp.skip 81 rfl (want_as rfl rfl rfl rfl) rfl rfl Kp.true ?_
            refine Jp.skip 82 rfl (want_as rfl rfl rfl rfl) rfl rfl Kp.true ?_
            refine Jp.y 83 rfl (want_all rfl) rfl rfl Kp.true (Y.pickF rfl rfl rfl) ?_
            refine Jp.y 77 rfl (want_all rfl) rfl rfl Kp.true (Y.assign rfl rfl) ?_
            refine Jp.done hK68 ?_
            refine Cd.condF rfl ?_
            refine Cd.seq fun K73 hK73 => ?_
            refine Cd.plain [(0, false), (1, false), (2, false)] rfl rfl ?_
            refine Jp.y 88 rfl (want_all rfl) rfl rfl Kp.true (Y.move rfl rfl) ?_
            refine Jp.y 89 rfl (want_all rfl) rfl rfl Kp.true (Y.geq rfl rfl rfl) ?_
            refine Jp.y 87 rfl (want_all rfl) rfl rfl Kp.true (Y.assign rfl rfl) ?_
            refine Jp.done hK73 ?_
            refine Cd.cond rfl (fun g87 => ?_) (fun g87 => ?_)
            · skip
              try simp only [decide_eq_false_iff_not, decide_eq_true_eq, Int.not_lt, Int.not_le, Bool.not_eq_false, Bool.not_eq_true, Bool.not_true, Bool.not_false, Bool.not_eq_true', Bool.not_eq_false', beq_eq_false_iff_ne, ne_eq, beq_iff_eq, bne_iff_ne, bne_eq_false_iff_eq, Classical.not_not] at g87
              refine Cd.seq fun K74 hK74 => ?_
              refine Cd.plain [(0, false)] rfl rfl ?_
              refine Jp.y 4 rfl (want_all rfl) rfl rfl Kp.true (Y.assign rfl rfl) ?_
              refine Jp.done hK74 ?_
              refine Cd.ret [] rfl (res1 rfl rfl) trivial ⟨rfl, congrArg (Value.int .u32) (by
                first
                | (exfalso; omega)
                | (rw [bitsP]; repeat first | exact hm | exact or4_u (placeP_lt _ _) (placeP_lt _ _) (placeP_lt _ _) (placeP_lt _ _) | exact bits_or32 (placeP_lt _ _) (placeP_lt _ _) | rfl | rw [if_pos (by omega)] | rw [if_neg (by omega)])), rfl⟩
            · skip
              try simp only [decide_eq_false_iff_not, decide_eq_true_eq, Int.not_lt, Int.not_le, Bool.not_eq_false, Bool.not_eq_true, Bool.not_true, Bool.not_false, Bool.not_eq_true', Bool.not_eq_false', beq_eq_false_iff_ne, ne_eq, beq_iff_eq, bne_iff_ne, bne_eq_false_iff_eq, Classical.not_not] at g87
              refine Cd.over rfl hK33 ?_
              refine Cd.seq fun K75 hK75 => ?_
              refine Cd.plain [(0, false), (1, false), (2, false), (3, false)] rfl rfl ?_
              refine Jp.y 90 rfl (want_all rfl) rfl rfl Kp.true (Y.move rfl rfl) ?_
              refine Jp.y 91 rfl (want_all rfl) rfl rfl Kp.true (Y.bits rfl rfl rfl rfl) ?_
              refine Jp.call [] [] (place_spec _ _ (by decide)) 92 rfl (want_all rfl) rfl rfl (Runs.fn rfl Try.call58 rfl) (by decide) (by decide) rfl trivial ?_
              rintro v124 ρ124 L124 ⟨rfl, rfl, rfl⟩
              refine ⟨rfl, fun hle124 => ⟨Kp.true, ?_⟩⟩
              refine Jp.y 4 rfl (want_all rfl) rfl rfl Kp.true (Y.assign rfl rfl) ?_
              refine Jp.done hK75 ?_
              refine Cd.ret [] rfl (res1 rfl rfl) trivial ⟨rfl, congrArg (Value.int .u32) (by
                first
                | (exfalso; omega)
                | (rw [bitsP]; repeat first | exact hm | exact or4_u (placeP_lt _ _) (placeP_lt _ _) (placeP_lt _ _) (placeP_lt _ _) | exact bits_or32 (placeP_lt _ _) (placeP_lt _ _) | rfl | rw [if_pos (by omega)] | rw [if_neg (by omega)])), rfl⟩
end
end Go.Proofs.Ytkjeidoplonkjaa
