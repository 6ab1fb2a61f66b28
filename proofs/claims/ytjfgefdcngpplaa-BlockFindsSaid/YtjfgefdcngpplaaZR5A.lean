import Derived.Test.YtjfgefdcngpplaaZRvC
import Derived.Test.YtjfgefdcngpplaaZEngV5
import Derived.Test.YtjfgefdcngpplaaZEngT2
set_option linter.unusedVariables false
set_option linter.unusedSimpArgs false
set_option maxRecDepth 100000
namespace Go.Proofs.Ytjfgefdcngpplaa
open Go
def formT : List (Nat × Nat × Nat) := [(15, 0, 0), (55, 0, 0), (23, 0, 0), (111, 0, 0), (103, 0, 0),
  (99, 0, 0), (99, 1, 0), (99, 4, 0), (99, 5, 0), (99, 6, 0), (99, 7, 0), (3, 0, 0), (3, 1, 0), (3, 2, 0), (3, 4, 0), (3, 5, 0), (35, 0, 0), (35, 1, 0), (35, 2, 0),
  (19, 0, 0), (19, 2, 0), (19, 3, 0), (19, 4, 0), (19, 6, 0), (19, 7, 0), (19, 1, 0), (19, 5, 0), (19, 5, 32),
  (51, 0, 0), (51, 0, 32), (51, 1, 0), (51, 2, 0), (51, 3, 0), (51, 4, 0), (51, 5, 0), (51, 5, 32), (51, 6, 0), (51, 7, 0),
  (51, 0, 1), (51, 1, 1), (51, 2, 1), (51, 3, 1), (51, 4, 1), (51, 5, 1), (51, 6, 1), (51, 7, 1), (15, 0, 0), (15, 1, 0)]
def formP (op : Nat) : Nat × Nat × Nat := formT.getD op (0, 0, 0)
def formV (op : Nat) : Value := .tuple #[.int .u32 ((formP op).1 : Int), .int .u32 ((formP op).2.1 : Int), .int .u32 ((formP op).2.2 : Int)]
theorem form_spec (op : Nat) (h : 1 ≤ op ∧ op ≤ 47) : Spec Try.prog 43 #[.int .i64 op] (fun _ => True) [] (fun ρ ρ' v L => ρ' = ρ ∧ v = formV op ∧ L = []) := by
  refine Spec.of 74 Try.func43 rfl Try.ntmps43 [(0, _)] rfl rfl ?_
  intro cx ρ hr h0
  refine Cd.seq fun K1 hK1 => ?_
  refine Cd.plain [(0, false), (1, false), (2, false)] rfl rfl ?_
  refine Jp.y 2 rfl (want_all rfl) rfl rfl Kp.true (Y.assign rfl rfl) ?_
  refine Jp.y 3 rfl (want_all rfl) rfl rfl Kp.true (Y.assign rfl rfl) ?_
  refine Jp.y 4 rfl (want_all rfl) rfl rfl Kp.true (Y.assign rfl rfl) ?_
  refine Jp.done hK1 ?_
  refine Cd.seq fun K2 hK2 => ?_
  refine Cd.block ?_
  refine Cd.seq fun K3 hK3 => ?_
  refine Cd.plain [(0, false), (1, false), (2, false)] rfl rfl ?_
  refine Jp.y 6 rfl (want_all rfl) rfl rfl Kp.true (Y.move rfl rfl) ?_
  refine Jp.y 7 rfl (want_all rfl) rfl rfl Kp.true (Y.eql rfl rfl rfl) ?_
  refine Jp.y 5 rfl (want_all rfl) rfl rfl Kp.true (Y.assign rfl rfl) ?_
  refine Jp.done hK3 ?_
  refine Cd.cond rfl (fun g5 => ?_) (fun g5 => ?_)
  · skip
    try simp only [decide_eq_false_iff_not, decide_eq_true_eq, Int.not_lt, Int.not_le, Bool.not_eq_false, Bool.not_eq_true, Bool.not_true, Bool.not_false, Bool.not_eq_true', Bool.not_eq_false', beq_eq_false_iff_ne, ne_eq, beq_iff_eq, bne_iff_ne, bne_eq_false_iff_eq, Classical.not_not] at g5
    refine Cd.seq fun K4 hK4 => ?_
    refine Cd.plain [(0, false), (1, false), (2, false)] rfl rfl ?_
    refine Jp.y 2 rfl (want_all rfl) rfl rfl Kp.true (Y.assign rfl rfl) ?_
    refine Jp.y 3 rfl (want_all rfl) rfl rfl Kp.true (Y.assign rfl rfl) ?_
    refine Jp.y 4 rfl (want_all rfl) rfl rfl Kp.true (Y.assign rfl rfl) ?_
    refine Jp.done hK4 ?_
    refine Cd.ret [] rfl (res3 rfl rfl rfl rfl) trivial ⟨rfl, by
      first
      | (exfalso; omega)
      | (obtain rfl : op = 1 := by omega
         rfl)
      | (obtain rfl : op = 2 := by omega
         rfl)
      | (obtain rfl : op = 3 := by omega
         rfl)
      | (obtain rfl : op = 4 := by omega
         rfl)
      | (rcases (show op = 16 ∨ op = 17 ∨ op = 18 by omega) with rfl | rfl | rfl <;> rfl)
      | (rcases (show op = 38 ∨ op = 39 ∨ op = 40 ∨ op = 41 ∨ op = 42 ∨ op = 43 ∨ op = 44 ∨ op = 45 by omega) with rfl | rfl | rfl | rfl | rfl | rfl | rfl | rfl <;> rfl)
      | (rcases (show op = 46 ∨ op = 47 by omega) with rfl | rfl <;> rfl), rfl⟩
  · skip
    try simp only [decide_eq_false_iff_not, decide_eq_true_eq, Int.not_lt, Int.not_le, Bool.not_eq_false, Bool.not_eq_true, Bool.not_true, Bool.not_false, Bool.not_eq_true', Bool.not_eq_false', beq_eq_false_iff_ne, ne_eq, beq_iff_eq, bne_iff_ne, bne_eq_false_iff_eq, Classical.not_not] at g5
    refine Cd.seq fun K5 hK5 => ?_
    refine Cd.plain [(0, false), (1, false), (2, false)] rfl rfl ?_
    refine Jp.y 9 rfl (want_all rfl) rfl rfl Kp.true (Y.move rfl rfl) ?_
    refine Jp.y 10 rfl (want_all rfl) rfl rfl Kp.true (Y.eql rfl rfl rfl) ?_
    refine Jp.y 8 rfl (want_all rfl) rfl rfl Kp.true (Y.assign rfl rfl) ?_
    refine Jp.done hK5 ?_
    refine Cd.cond rfl (fun g8 => ?_) (fun g8 => ?_)
    · skip
      try simp only [decide_eq_false_iff_not, decide_eq_true_eq, Int.not_lt, Int.not_le, Bool.not_eq_false, Bool.not_eq_true, Bool.not_true, Bool.not_false, Bool.not_eq_true', Bool.not_eq_false', beq_eq_false_iff_ne, ne_eq, beq_iff_eq, bne_iff_ne, bne_eq_false_iff_eq, Classical.not_not] at g8
      refine Cd.seq fun K6 hK6 => ?_
      refine Cd.plain [(0, false), (1, false), (2, false)] rfl rfl ?_
      refine Jp.y 2 rfl (want_all rfl) rfl rfl Kp.true (Y.assign rfl rfl) ?_
      refine Jp.y 3 rfl (want_all rfl) rfl rfl Kp.true (Y.assign rfl rfl) ?_
      refine Jp.y 4 rfl (want_all rfl) rfl rfl Kp.true (Y.assign rfl rfl) ?_
      refine Jp.done hK6 ?_
      refine Cd.ret [] rfl (res3 rfl rfl rfl rfl) trivial ⟨rfl, by
        first
        | (exfalso; omega)
        | (obtain rfl : op = 1 := by omega
           rfl)
        | (obtain rfl : op = 2 := by omega
           rfl)
        | (obtain rfl : op = 3 := by omega
           rfl)
        | (obtain rfl : op = 4 := by omega
           rfl)
        | (rcases (show op = 16 ∨ op = 17 ∨ op = 18 by omega) with rfl | rfl | rfl <;> rfl)
        | (rcases (show op = 38 ∨ op = 39 ∨ op = 40 ∨ op = 41 ∨ op = 42 ∨ op = 43 ∨ op = 44 ∨ op = 45 by omega) with rfl | rfl | rfl | rfl | rfl | rfl | rfl | rfl <;> rfl)
        | (rcases (show op = 46 ∨ op = 47 by omega) with rfl | rfl <;> rfl), rfl⟩
    · skip
      try simp only [decide_eq_false_iff_not, decide_eq_true_eq, Int.not_lt, Int.not_le, Bool.not_eq_false, Bool.not_eq_true, Bool.not_true, Bool.not_false, Bool.not_eq_true', Bool.not_eq_false', beq_eq_false_iff_ne, ne_eq, beq_iff_eq, bne_iff_ne, bne_eq_false_iff_eq, Classical.not_not] at g8
      refine Cd.seq fun K7 hK7 => ?_
      refine Cd.plain [(0, false), (1, false), (2, false)] rfl rfl ?_
      refine Jp.y 12 rfl (want_all rfl) rfl rfl Kp.true (Y.move rfl rfl) ?_
      refine Jp.y 13 rfl (want_all rfl) rfl rfl Kp.true (Y.eql rfl rfl rfl) ?_
      refine Jp.y 11 rfl (want_all rfl) rfl rfl Kp.true (Y.assign rfl rfl) ?_
      refine Jp.done hK7 ?_
      refine Cd.cond rfl (fun g11 => ?_) (fun g11 => ?_)
      · skip
        try simp only [decide_eq_false_iff_not, decide_eq_true_eq, Int.not_lt, Int.not_le, Bool.not_eq_false, Bool.not_eq_true, Bool.not_true, Bool.not_false, Bool.not_eq_true', Bool.not_eq_false', beq_eq_false_iff_ne, ne_eq, beq_iff_eq, bne_iff_ne, bne_eq_false_iff_eq, Classical.not_not] at g11
        refine Cd.seq fun K8 hK8 => ?_
        refine Cd.plain [(0, false), (1, false), (2, false)] rfl rfl ?_
        refine Jp.y 2 rfl (want_all rfl) rfl rfl Kp.true (Y.assign rfl rfl) ?_
        refine Jp.y 3 rfl (want_all rfl) rfl rfl Kp.true (Y.assign rfl rfl) ?_
        refine Jp.y 4 rfl (want_all rfl) rfl rfl Kp.true (Y.assign rfl rfl) ?_
        refine Jp.done hK8 ?_
        refine Cd.ret [] rfl (res3 rfl rfl rfl rfl) trivial ⟨rfl, by
          first
          | (exfalso; omega)
          | (obtain rfl : op = 1 := by omega
             rfl)
          | (obtain rfl : op = 2 := by omega
             rfl)
          | (obtain rfl : op = 3 := by omega
             rfl)
          | (obtain rfl : op = 4 := by omega
             rfl)
          | (rcases (show op = 16 ∨ op = 17 ∨ op = 18 by omega) with rfl | rfl | rfl <;> rfl)
          | (rcases (show op = 38 ∨ op = 39 ∨ op = 40 ∨ op = 41 ∨ op = 42 ∨ op = 43 ∨ op = 44 ∨ op = 45 by omega) with rfl | rfl | rfl | rfl | rfl | rfl | rfl | rfl <;> rfl)
          | (rcases (show op = 46 ∨ op = 47 by omega) with rfl | rfl <;> rfl), rfl⟩
      · skip
        try simp only [decide_eq_false_iff_not, decide_eq_true_eq, Int.not_lt, Int.not_le, Bool.not_eq_false, Bool.not_eq_true, Bool.not_true, Bool.not_false, Bool.not_eq_true', Bool.not_eq_false', beq_eq_false_iff_ne, ne_eq, beq_iff_eq, bne_iff_ne, bne_eq_false_iff_eq, Classical.not_not] at g11
        refine Cd.seq fun K9 hK9 => ?_
        refine Cd.plain [(0, false), (1, false), (2, false)] rfl rfl ?_
        refine Jp.y 15 rfl (want_all rfl) rfl rfl Kp.true (Y.move rfl rfl) ?_
        refine Jp.y 16 rfl (want_all rfl) rfl rfl Kp.true (Y.eql rfl rfl rfl) ?_
        refine Jp.y 14 rfl (want_all rfl) rfl rfl Kp.true (Y.assign rfl rfl) ?_
        refine Jp.done hK9 ?_
        refine Cd.cond rfl (fun g14 => ?_) (fun g14 => ?_)
        · skip
          try simp only [decide_eq_false_iff_not, decide_eq_true_eq, Int.not_lt, Int.not_le, Bool.not_eq_false, Bool.not_eq_true, Bool.not_true, Bool.not_false, Bool.not_eq_true', Bool.not_eq_false', beq_eq_false_iff_ne, ne_eq, beq_iff_eq, bne_iff_ne, bne_eq_false_iff_eq, Classical.not_not] at g14
          refine Cd.seq fun K10 hK10 => ?_
          refine Cd.plain [(0, false), (1, false), (2, false)] rfl rfl ?_
          refine Jp.y 2 rfl (want_all rfl) rfl rfl Kp.true (Y.assign rfl rfl) ?_
          refine Jp.y 3 rfl (want_all rfl) rfl rfl Kp.true (Y.assign rfl rfl) ?_
          refine Jp.y 4 rfl (want_all rfl) rfl rfl Kp.true (Y.assign rfl rfl) ?_
          refine Jp.done hK10 ?_
          refine Cd.ret [] rfl (res3 rfl rfl rfl rfl) trivial ⟨rfl, by
            first
            | (exfalso; omega)
            | (obtain rfl : op = 1 := by omega
               rfl)
            | (obtain rfl : op = 2 := by omega
               rfl)
            | (obtain rfl : op = 3 := by omega
               rfl)
            | (obtain rfl : op = 4 := by omega
               rfl)
            | (rcases (show op = 16 ∨ op = 17 ∨ op = 18 by omega) with rfl | rfl | rfl <;> rfl)
            | (rcases (show op = 38 ∨ op = 39 ∨ op = 40 ∨ op = 41 ∨ op = 42 ∨ op = 43 ∨ op = 44 ∨ op = 45 by omega) with rfl | rfl | rfl | rfl | rfl | rfl | rfl | rfl <;> rfl)
            | (rcases (show op = 46 ∨ op = 47 by omega) with rfl | rfl <;> rfl), rfl⟩
        · skip
          try simp only [decide_eq_false_iff_not, decide_eq_true_eq, Int.not_lt, Int.not_le, Bool.not_eq_false, Bool.not_eq_true, Bool.not_true, Bool.not_false, Bool.not_eq_true', Bool.not_eq_false', beq_eq_false_iff_ne, ne_eq, beq_iff_eq, bne_iff_ne, bne_eq_false_iff_eq, Classical.not_not] at g14
          refine Cd.seq fun K11 hK11 => ?_
          refine Cd.plain [(0, false), (1, false), (2, false)] rfl rfl ?_
          refine Jp.y 18 rfl (want_all rfl) rfl rfl Kp.true (Y.move rfl rfl) ?_
          refine Jp.y 19 rfl (want_all rfl) rfl rfl Kp.true (Y.leq rfl rfl rfl) ?_
          refine Jp.y 17 rfl (want_all rfl) rfl rfl Kp.true (Y.assign rfl rfl) ?_
          refine Jp.done hK11 ?_
          refine Cd.cond rfl (fun g17 => ?_) (fun g17 => ?_)
          · skip
            try simp only [decide_eq_false_iff_not, decide_eq_true_eq, Int.not_lt, Int.not_le, Bool.not_eq_false, Bool.not_eq_true, Bool.not_true, Bool.not_false, Bool.not_eq_true', Bool.not_eq_false', beq_eq_false_iff_ne, ne_eq, beq_iff_eq, bne_iff_ne, bne_eq_false_iff_eq, Classical.not_not] at g17
            refine Cd.seq fun K12 hK12 => ?_
            have hidx : ([Value.int .u32 0, Value.int .u32 1, Value.int .u32 4, Value.int .u32 5, Value.int .u32 6, Value.int .u32 7] : List Value)[op - 5]? = some (.int .u32 ((formP op).2.1 : Int)) := by
              rcases (show op = 5 ∨ op = 6 ∨ op = 7 ∨ op = 8 ∨ op = 9 ∨ op = 10 by omega) with rfl | rfl | rfl | rfl | rfl | rfl <;> rfl
            refine Cd.drawn [] trivial [(1, true), (2, true), (5, true), (0, false), (3, true), (4, false), (6, true), (7, true)] follows (by kernel_rfl) (fun hrl => ?_)
            refine Jp.q 21 rfl (want_all rfl) rfl rfl (Y.move rfl rfl) ?_
            refine Jp.q 22 rfl (want_all rfl) rfl rfl (Y.sub_ rfl rfl rfl (by first | exact wrap_i64 (by omega) (by omega) | rfl)) ?_
            refine Jp.q 2 rfl (want_all rfl) rfl rfl (Y.assign rfl rfl) ?_
            refine Jp.lit 20 7 [(0, _), (1, _), (2, _), (3, _), (4, _), (5, _)] [_, _, _, _, _, _] rfl (want_all rfl) rfl rfl rfl rfl Try.underlying22 Try.sizeOf23 Try.zeroValue23 rfl rfl rfl rfl rfl fun b7 => ⟨(Kp.st trivial), ?_⟩
            refine Jp.q 23 rfl (want_all rfl) rfl rfl (Y.indexAddr (q := op - 5) rfl rfl rfl Try.underlying22 Try.sizeOf23 (by omega) (by omega) (by omega)) ?_
            refine Jp.y 24 rfl (want_all rfl) rfl rfl (Kp.st trivial) (Y.loadS 7 (q := op - 5) rfl Try.isAgg23 rfl rfl rfl hidx) ?_
            refine Jp.q 3 rfl (want_all rfl) rfl rfl (Y.assign rfl rfl) ?_
            refine Jp.q 4 rfl (want_all rfl) rfl rfl (Y.assign rfl rfl) ?_
            refine Jp.done hK12 ?_
            refine Cd.ret [] rfl (res3 rfl rfl rfl rfl) trivial ⟨rfl, by rcases (show op = 5 ∨ op = 6 ∨ op = 7 ∨ op = 8 ∨ op = 9 ∨ op = 10 by omega) with rfl | rfl | rfl | rfl | rfl | rfl <;> rfl, rfl⟩
          · skip
            try simp only [decide_eq_false_iff_not, decide_eq_true_eq, Int.not_lt, Int.not_le, Bool.not_eq_false, Bool.not_eq_true, Bool.not_true, Bool.not_false, Bool.not_eq_true', Bool.not_eq_false', beq_eq_false_iff_ne, ne_eq, beq_iff_eq, bne_iff_ne, bne_eq_false_iff_eq, Classical.not_not] at g17
            refine Cd.seq fun K14 hK14 => ?_
            refine Cd.plain [(0, false), (1, false), (2, false)] rfl rfl ?_
            refine Jp.y 26 rfl (want_all rfl) rfl rfl Kp.true (Y.move rfl rfl) ?_
            refine Jp.y 27 rfl (want_all rfl) rfl rfl Kp.true (Y.leq rfl rfl rfl) ?_
            refine Jp.y 25 rfl (want_all rfl) rfl rfl Kp.true (Y.assign rfl rfl) ?_
            refine Jp.done hK14 ?_
            refine Cd.cond rfl (fun g25 => ?_) (fun g25 => ?_)
            · skip
              try simp only [decide_eq_false_iff_not, decide_eq_true_eq, Int.not_lt, Int.not_le, Bool.not_eq_false, Bool.not_eq_true, Bool.not_true, Bool.not_false, Bool.not_eq_true', Bool.not_eq_false', beq_eq_false_iff_ne, ne_eq, beq_iff_eq, bne_iff_ne, bne_eq_false_iff_eq, Classical.not_not] at g25
              refine Cd.seq fun K15 hK15 => ?_
              have hidx : ([Value.int .u32 0, Value.int .u32 1, Value.int .u32 2, Value.int .u32 4, Value.int .u32 5] : List Value)[op - 11]? = some (.int .u32 ((formP op).2.1 : Int)) := by
                rcases (show op = 11 ∨ op = 12 ∨ op = 13 ∨ op = 14 ∨ op = 15 by omega) with rfl | rfl | rfl | rfl | rfl <;> rfl
              refine Cd.drawn [] trivial [(1, true), (2, true), (5, true), (0, false), (3, true), (4, false), (6, true), (7, true)] follows (by kernel_rfl) (fun hrl => ?_)
              refine Jp.q 29 rfl (want_all rfl) rfl rfl (Y.move rfl rfl) ?_
              refine Jp.q 30 rfl (want_all rfl) rfl rfl (Y.sub_ rfl rfl rfl (by first | exact wrap_i64 (by omega) (by omega) | rfl)) ?_
              refine Jp.q 2 rfl (want_all rfl) rfl rfl (Y.assign rfl rfl) ?_
              refine Jp.lit 28 7 [(0, _), (1, _), (2, _), (3, _), (4, _)] [_, _, _, _, _] rfl (want_all rfl) rfl rfl rfl rfl Try.underlying22 Try.sizeOf23 Try.zeroValue23 rfl rfl rfl rfl rfl fun b7 => ⟨(Kp.st trivial), ?_⟩
              refine Jp.q 31 rfl (want_all rfl) rfl rfl (Y.indexAddr (q := op - 11) rfl rfl rfl Try.underlying22 Try.sizeOf23 (by omega) (by omega) (by omega)) ?_
              refine Jp.y 32 rfl (want_all rfl) rfl rfl (Kp.st trivial) (Y.loadS 7 (q := op - 11) rfl Try.isAgg23 rfl rfl rfl hidx) ?_
              refine Jp.q 3 rfl (want_all rfl) rfl rfl (Y.assign rfl rfl) ?_
              refine Jp.q 4 rfl (want_all rfl) rfl rfl (Y.assign rfl rfl) ?_
              refine Jp.done hK15 ?_
              refine Cd.ret [] rfl (res3 rfl rfl rfl rfl) trivial ⟨rfl, by rcases (show op = 11 ∨ op = 12 ∨ op = 13 ∨ op = 14 ∨ op = 15 by omega) with rfl | rfl | rfl | rfl | rfl <;> rfl, rfl⟩
            · skip
              try simp only [decide_eq_false_iff_not, decide_eq_true_eq, Int.not_lt, Int.not_le, Bool.not_eq_false, Bool.not_eq_true, Bool.not_true, Bool.not_false, Bool.not_eq_true', Bool.not_eq_false', beq_eq_false_iff_ne, ne_eq, beq_iff_eq, bne_iff_ne, bne_eq_false_iff_eq, Classical.not_not] at g25
              refine Cd.seq fun K17 hK17 => ?_
              refine Cd.plain [(0, false), (1, false), (2, false)] rfl rfl ?_
              refine Jp.y 34 rfl (want_all rfl) rfl rfl Kp.true (Y.move rfl rfl) ?_
              refine Jp.y 35 rfl (want_all rfl) rfl rfl Kp.true (Y.leq rfl rfl rfl) ?_
              refine Jp.y 33 rfl (want_all rfl) rfl rfl Kp.true (Y.assign rfl rfl) ?_
              refine Jp.done hK17 ?_
              refine Cd.cond rfl (fun g33 => ?_) (fun g33 => ?_)
              · skip
                try simp only [decide_eq_false_iff_not, decide_eq_true_eq, Int.not_lt, Int.not_le, Bool.not_eq_false, Bool.not_eq_true, Bool.not_true, Bool.not_false, Bool.not_eq_true', Bool.not_eq_false', beq_eq_false_iff_ne, ne_eq, beq_iff_eq, bne_iff_ne, bne_eq_false_iff_eq, Classical.not_not] at g33
                refine Cd.seq fun K18 hK18 => ?_
                refine Cd.plain [(0, false), (1, false), (2, false), (3, false), (4, false), (5, false)] rfl rfl ?_
                refine Jp.y 36 rfl (want_all rfl) rfl rfl Kp.true (Y.move rfl rfl) ?_
                refine Jp.y 37 rfl (want_all rfl) rfl rfl Kp.true (Y.sub_ rfl rfl rfl (by first | exact wrap_i64 (by omega) (by omega) | rfl)) ?_
                refine Jp.y 38 rfl (want_all rfl) rfl rfl Kp.true (Y.conv_ rfl rfl Try.underlying3 Try.underlying23 (by first | exact wrap_u32 (by omega) (by omega) | rfl)) ?_
                refine Jp.y 2 rfl (want_all rfl) rfl rfl Kp.true (Y.assign rfl rfl) ?_
                refine Jp.y 3 rfl (want_all rfl) rfl rfl Kp.true (Y.assign rfl rfl) ?_
                refine Jp.y 4 rfl (want_all rfl) rfl rfl Kp.true (Y.assign rfl rfl) ?_
                refine Jp.done hK18 ?_
                refine Cd.ret [] rfl (res3 rfl rfl rfl rfl) trivial ⟨rfl, by
                  first
                  | (exfalso; omega)
                  | (obtain rfl : op = 1 := by omega
                     rfl)
                  | (obtain rfl : op = 2 := by omega
                     rfl)
                  | (obtain rfl : op = 3 := by omega
                     rfl)
                  | (obtain rfl : op = 4 := by omega
                     rfl)
                  | (rcases (show op = 16 ∨ op = 17 ∨ op = 18 by omega) with rfl | rfl | rfl <;> rfl)
                  | (rcases (show op = 38 ∨ op = 39 ∨ op = 40 ∨ op = 41 ∨ op = 42 ∨ op = 43 ∨ op = 44 ∨ op = 45 by omega) with rfl | rfl | rfl | rfl | rfl | rfl | rfl | rfl <;> rfl)
                  | (rcases (show op = 46 ∨ op = 47 by omega) with rfl | rfl <;> rfl), rfl⟩
              · skip
                try simp only [decide_eq_false_iff_not, decide_eq_true_eq, Int.not_lt, Int.not_le, Bool.not_eq_false, Bool.not_eq_true, Bool.not_true, Bool.not_false, Bool.not_eq_true', Bool.not_eq_false', beq_eq_false_iff_ne, ne_eq, beq_iff_eq, bne_iff_ne, bne_eq_false_iff_eq, Classical.not_not] at g33
                refine Cd.seq fun K19 hK19 => ?_
                refine Cd.plain [(0, false), (1, false), (2, false)] rfl rfl ?_
                refine Jp.y 40 rfl (want_all rfl) rfl rfl Kp.true (Y.move rfl rfl) ?_
                refine Jp.y 41 rfl (want_all rfl) rfl rfl Kp.true (Y.leq rfl rfl rfl) ?_
                refine Jp.y 39 rfl (want_all rfl) rfl rfl Kp.true (Y.assign rfl rfl) ?_
                refine Jp.done hK19 ?_
                refine Cd.cond rfl (fun g39 => ?_) (fun g39 => ?_)
                · skip
                  try simp only [decide_eq_false_iff_not, decide_eq_true_eq, Int.not_lt, Int.not_le, Bool.not_eq_false, Bool.not_eq_true, Bool.not_true, Bool.not_false, Bool.not_eq_true', Bool.not_eq_false', beq_eq_false_iff_ne, ne_eq, beq_iff_eq, bne_iff_ne, bne_eq_false_iff_eq, Classical.not_not] at g39
                  refine Cd.seq fun K20 hK20 => ?_
                  have hidx : ([Value.int .u32 0, Value.int .u32 2, Value.int .u32 3, Value.int .u32 4, Value.int .u32 6, Value.int .u32 7, Value.int .u32 1, Value.int .u32 5, Value.int .u32 5] : List Value)[op - 19]? = some (.int .u32 ((formP op).2.1 : Int)) := by
                    rcases (show op = 19 ∨ op = 20 ∨ op = 21 ∨ op = 22 ∨ op = 23 ∨ op = 24 ∨ op = 25 ∨ op = 26 ∨ op = 27 by omega) with rfl | rfl | rfl | rfl | rfl | rfl | rfl | rfl | rfl <;> rfl
                  have hidx2 : ([Value.int .u32 0, Value.int .u32 0, Value.int .u32 0, Value.int .u32 0, Value.int .u32 0, Value.int .u32 0, Value.int .u32 0, Value.int .u32 0, Value.int .u32 32] : List Value)[op - 19]? = some (.int .u32 ((formP op).2.2 : Int)) := by
                    rcases (show op = 19 ∨ op = 20 ∨ op = 21 ∨ op = 22 ∨ op = 23 ∨ op = 24 ∨ op = 25 ∨ op = 26 ∨ op = 27 by omega) with rfl | rfl | rfl | rfl | rfl | rfl | rfl | rfl | rfl <;> rfl
                  refine Cd.drawnT [] trivial 13 (.q 1 (.q 2 (.q 6 (.q 7 (.q 10 (.f 0 (.q 3 (.f 4 (.q 11 (.l 5 (.q 8 (.l 9 (.q 12 .nil))))) 5 (.q 8 (.f 4 (.q 11 (.l 9 (.q 12 .nil))) 9 (.l 4 (.q 11 (.q 12 .nil))))))) 5 (.q 8 (.f 0 (.q 3 (.f 4 (.q 11 (.l 9 (.q 12 .nil))) 9 (.l 4 (.q 11 (.q 12 .nil))))) 9 (.l 0 (.q 3 (.l 4 (.q 11 (.q 12 .nil))))))))))))) follows (by kernel_rfl) (fun hrl => ?_)
                  refine JT.q 43 rfl (want_all rfl) rfl rfl (Y.move rfl rfl) ?_
                  refine JT.q 44 rfl (want_all rfl) rfl rfl (Y.sub_ rfl rfl rfl (by first | exact wrap_i64 (by omega) (by omega) | rfl)) ?_
                  refine JT.q 48 rfl (want_all rfl) rfl rfl (Y.move rfl rfl) ?_
                  refine JT.q 49 rfl (want_all rfl) rfl rfl (Y.sub_ rfl rfl rfl (by first | exact wrap_i64 (by omega) (by omega) | rfl)) ?_
                  refine JT.q 2 rfl (want_all rfl) rfl rfl (Y.assign rfl rfl) ?_
                  refine JT.fork ?_ ?_
                  · skip
                    refine JT.loud ?_
                    refine Jp.lit 42 7 [(0, _), (1, _), (2, _), (3, _), (4, _), (5, _), (6, _), (7, _), (8, _)] [_, _, _, _, _, _, _, _, _] rfl (want_all rfl) rfl rfl rfl rfl Try.underlying22 Try.sizeOf23 Try.zeroValue23 rfl rfl rfl rfl rfl fun b7 => ⟨Kp.true, ?_⟩
                    refine JT.tail (KT.st trivial) ?_
                    refine JT.q 45 rfl (want_all rfl) rfl rfl (Y.indexAddr (q := op - 19) rfl rfl rfl Try.underlying22 Try.sizeOf23 (by omega) (by omega) (by omega)) ?_
                    refine JT.fork ?_ ?_
                    · skip
                      refine JT.loud ?_
                      refine Jp.y 46 rfl (want_all rfl) rfl rfl Kp.true (Y.loadS 7 (q := op - 19) rfl Try.isAgg23 rfl rfl rfl hidx) ?_
                      refine JT.tail (KT.st trivial) ?_
                      refine JT.q 3 rfl (want_all rfl) rfl rfl (Y.assign rfl rfl) ?_
                      refine JT.loud ?_
                      refine Jp.lit 47 8 [(0, _), (1, _), (2, _), (3, _), (4, _), (5, _), (6, _), (7, _), (8, _)] [_, _, _, _, _, _, _, _, _] rfl (want_all rfl) rfl rfl rfl rfl Try.underlying22 Try.sizeOf23 Try.zeroValue23 rfl rfl rfl rfl rfl fun b8 => ⟨Kp.true, ?_⟩
                      refine JT.tail (KT.st trivial) ?_
                      refine JT.q 50 rfl (want_all rfl) rfl rfl (Y.indexAddr (q := op - 19) rfl rfl rfl Try.underlying22 Try.sizeOf23 (by omega) (by omega) (by omega)) ?_
                      refine JT.loud ?_
                      refine Jp.y 51 rfl (want_all rfl) rfl rfl Kp.true (Y.loadS 8 (q := op - 19) rfl Try.isAgg23 rfl rfl rfl hidx2) ?_
                      refine JT.tail (KT.st trivial) ?_
                      refine JT.q 4 rfl (want_all rfl) rfl rfl (Y.assign rfl rfl) ?_
                      refine JT.nil ?_
                      refine Jp.done hK20 ?_
                      refine Cd.ret [] rfl (res3 rfl rfl rfl rfl) trivial ⟨rfl, by rcases (show op = 19 ∨ op = 20 ∨ op = 21 ∨ op = 22 ∨ op = 23 ∨ op = 24 ∨ op = 25 ∨ op = 26 ∨ op = 27 by omega) with rfl | rfl | rfl | rfl | rfl | rfl | rfl | rfl | rfl <;> rfl, rfl⟩
                    · skip
                      refine JT.loud ?_
                      refine Jp.lit 47 8 [(0, _), (1, _), (2, _), (3, _), (4, _), (5, _), (6, _), (7, _), (8, _)] [_, _, _, _, _, _, _, _, _] rfl (want_all rfl) rfl rfl rfl rfl Try.underlying22 Try.sizeOf23 Try.zeroValue23 rfl rfl rfl rfl rfl fun b8 => ⟨Kp.true, ?_⟩
                      refine JT.tail (KT.st trivial) ?_
                      refine JT.q 50 rfl (want_all rfl) rfl rfl (Y.indexAddr (q := op - 19) rfl rfl rfl Try.underlying22 Try.sizeOf23 (by omega) (by omega) (by omega)) ?_
                      refine JT.fork ?_ ?_
                      · skip
                        refine JT.loud ?_
                        refine Jp.y 46 rfl (want_all rfl) rfl rfl Kp.true (Y.loadS 7 (q := op - 19) rfl Try.isAgg23 rfl rfl rfl hidx) ?_
                        refine JT.tail (KT.st trivial) ?_
                        refine JT.q 3 rfl (want_all rfl) rfl rfl (Y.assign rfl rfl) ?_
                        refine JT.loud ?_
                        refine Jp.y 51 rfl (want_all rfl) rfl rfl Kp.true (Y.loadS 8 (q := op - 19) rfl Try.isAgg23 rfl rfl rfl hidx2) ?_
                        refine JT.tail (KT.st trivial) ?_
                        refine JT.q 4 rfl (want_all rfl) rfl rfl (Y.assign rfl rfl) ?_
                        refine JT.nil ?_
                        refine Jp.done hK20 ?_
                        refine Cd.ret [] rfl (res3 rfl rfl rfl rfl) trivial ⟨rfl, by rcases (show op = 19 ∨ op = 20 ∨ op = 21 ∨ op = 22 ∨ op = 23 ∨ op = 24 ∨ op = 25 ∨ op = 26 ∨ op = 27 by omega) with rfl | rfl | rfl | rfl | rfl | rfl | rfl | rfl | rfl <;> rfl, rfl⟩
                      · skip
                        refine JT.loud ?_
                        refine Jp.y 51 rfl (want_all rfl) rfl rfl Kp.true (Y.loadS 8 (q := op - 19) rfl Try.isAgg23 rfl rfl rfl hidx2) ?_
                        refine JT.tail (KT.st trivial) ?_
                        refine JT.loud ?_
                        refine Jp.y 46 rfl (want_all rfl) rfl rfl Kp.true (Y.loadS 7 (q := op - 19) rfl Try.isAgg23 rfl rfl rfl hidx) ?_
                        refine JT.tail (KT.st trivial) ?_
                        refine JT.q 3 rfl (want_all rfl) rfl rfl (Y.assign rfl rfl) ?_
                        refine JT.q 4 rfl (want_all rfl) rfl rfl (Y.assign rfl rfl) ?_
                        refine JT.nil ?_
                        refine Jp.done hK20 ?_
                        refine Cd.ret [] rfl (res3 rfl rfl rfl rfl) trivial ⟨rfl, by rcases (show op = 19 ∨ op = 20 ∨ op = 21 ∨ op = 22 ∨ op = 23 ∨ op = 24 ∨ op = 25 ∨ op = 26 ∨ op = 27 by omega) with rfl | rfl | rfl | rfl | rfl | rfl | rfl | rfl | rfl <;> rfl, rfl⟩
                  · skip
                    refine JT.loud ?_
                    refine Jp.lit 47 8 [(0, _), (1, _), (2, _), (3, _), (4, _), (5, _), (6, _), (7, _), (8, _)] [_, _, _, _, _, _, _, _, _] rfl (want_all rfl) rfl rfl rfl rfl Try.underlying22 Try.sizeOf23 Try.zeroValue23 rfl rfl rfl rfl rfl fun b8 => ⟨Kp.true, ?_⟩
                    refine JT.tail (KT.st trivial) ?_
                    refine JT.q 50 rfl (want_all rfl) rfl rfl (Y.indexAddr (q := op - 19) rfl rfl rfl Try.underlying22 Try.sizeOf23 (by omega) (by omega) (by omega)) ?_
                    refine JT.fork ?_ ?_
                    · skip
                      refine JT.loud ?_
                      refine Jp.lit 42 7 [(0, _), (1, _), (2, _), (3, _), (4, _), (5, _), (6, _), (7, _), (8, _)] [_, _, _, _, _, _, _, _, _] rfl (want_all rfl) rfl rfl rfl rfl Try.underlying22 Try.sizeOf23 Try.zeroValue23 rfl rfl rfl rfl rfl fun b7 => ⟨Kp.true, ?_⟩
                      refine JT.tail (KT.st trivial) ?_
                      refine JT.q 45 rfl (want_all rfl) rfl rfl (Y.indexAddr (q := op - 19) rfl rfl rfl Try.underlying22 Try.sizeOf23 (by omega) (by omega) (by omega)) ?_
                      refine JT.fork ?_ ?_
                      · skip
                        refine JT.loud ?_
                        refine Jp.y 46 rfl (want_all rfl) rfl rfl Kp.true (Y.loadS 7 (q := op - 19) rfl Try.isAgg23 rfl rfl rfl hidx) ?_
                        refine JT.tail (KT.st trivial) ?_
                        refine JT.q 3 rfl (want_all rfl) rfl rfl (Y.assign rfl rfl) ?_
                        refine JT.loud ?_
                        refine Jp.y 51 rfl (want_all rfl) rfl rfl Kp.true (Y.loadS 8 (q := op - 19) rfl Try.isAgg23 rfl rfl rfl hidx2) ?_
                        refine JT.tail (KT.st trivial) ?_
                        refine JT.q 4 rfl (want_all rfl) rfl rfl (Y.assign rfl rfl) ?_
                        refine JT.nil ?_
                        refine Jp.done hK20 ?_
                        refine Cd.ret [] rfl (res3 rfl rfl rfl rfl) trivial ⟨rfl, by rcases (show op = 19 ∨ op = 20 ∨ op = 21 ∨ op = 22 ∨ op = 23 ∨ op = 24 ∨ op = 25 ∨ op = 26 ∨ op = 27 by omega) with rfl | rfl | rfl | rfl | rfl | rfl | rfl | rfl | rfl <;> rfl, rfl⟩
                      · skip
                        refine JT.loud ?_
                        refine Jp.y 51 rfl (want_all rfl) rfl rfl Kp.true (Y.loadS 8 (q := op - 19) rfl Try.isAgg23 rfl rfl rfl hidx2) ?_
                        refine JT.tail (KT.st trivial) ?_
                        refine JT.loud ?_
                        refine Jp.y 46 rfl (want_all rfl) rfl rfl Kp.true (Y.loadS 7 (q := op - 19) rfl Try.isAgg23 rfl rfl rfl hidx) ?_
                        refine JT.tail (KT.st trivial) ?_
                        refine JT.q 3 rfl (want_all rfl) rfl rfl (Y.assign rfl rfl) ?_
                        refine JT.q 4 rfl (want_all rfl) rfl rfl (Y.assign rfl rfl) ?_
                        refine JT.nil ?_
                        refine Jp.done hK20 ?_
                        refine Cd.ret [] rfl (res3 rfl rfl rfl rfl) trivial ⟨rfl, by rcases (show op = 19 ∨ op = 20 ∨ op = 21 ∨ op = 22 ∨ op = 23 ∨ op = 24 ∨ op = 25 ∨ op = 26 ∨ op = 27 by omega) with rfl | rfl | rfl | rfl | rfl | rfl | rfl | rfl | rfl <;> rfl, rfl⟩
                    · skip
                      refine JT.loud ?_
                      refine Jp.y 51 rfl (want_all rfl) rfl rfl Kp.true (Y.loadS 8 (q := op - 19) rfl Try.isAgg23 rfl rfl rfl hidx2) ?_
                      refine JT.tail (KT.st trivial) ?_
                      refine JT.loud ?_
                      refine Jp.lit 42 7 [(0, _), (1, _), (2, _), (3, _), (4, _), (5, _), (6, _), (7, _), (8, _)] [_, _, _, _, _, _, _, _, _] rfl (want_all rfl) rfl rfl rfl rfl Try.underlying22 Try.sizeOf23 Try.zeroValue23 rfl rfl rfl rfl rfl fun b7 => ⟨Kp.true, ?_⟩
                      refine JT.tail (KT.st trivial) ?_
                      refine JT.q 45 rfl (want_all rfl) rfl rfl (Y.indexAddr (q := op - 19) rfl rfl rfl Try.underlying22 Try.sizeOf23 (by omega) (by omega) (by omega)) ?_
                      refine JT.loud ?_
                      refine Jp.y 46 rfl (want_all rfl) rfl rfl Kp.true (Y.loadS 7 (q := op - 19) rfl Try.isAgg23 rfl rfl rfl hidx) ?_
                      refine JT.tail (KT.st trivial) ?_
                      refine JT.q 3 rfl (want_all rfl) rfl rfl (Y.assign rfl rfl) ?_
                      refine JT.q 4 rfl (want_all rfl) rfl rfl (Y.assign rfl rfl) ?_
                      refine JT.nil ?_
                      refine Jp.done hK20 ?_
                      refine Cd.ret [] rfl (res3 rfl rfl rfl rfl) trivial ⟨rfl, by rcases (show op = 19 ∨ op = 20 ∨ op = 21 ∨ op = 22 ∨ op = 23 ∨ op = 24 ∨ op = 25 ∨ op = 26 ∨ op = 27 by omega) with rfl | rfl | rfl | rfl | rfl | rfl | rfl | rfl | rfl <;> rfl, rfl⟩
                · skip
                  try simp only [decide_eq_false_iff_not, decide_eq_true_eq, Int.not_lt, Int.not_le, Bool.not_eq_false, Bool.not_eq_true, Bool.not_true, Bool.not_false, Bool.not_eq_true', Bool.not_eq_false', beq_eq_false_iff_ne, ne_eq, beq_iff_eq, bne_iff_ne, bne_eq_false_iff_eq, Classical.not_not] at g39
                  refine Cd.seq fun K21 hK21 => ?_
                  refine Cd.plain [(0, false), (1, false), (2, false)] rfl rfl ?_
                  refine Jp.y 53 rfl (want_all rfl) rfl rfl Kp.true (Y.move rfl rfl) ?_
                  refine Jp.y 54 rfl (want_all rfl) rfl rfl Kp.true (Y.leq rfl rfl rfl) ?_
                  refine Jp.y 52 rfl (want_all rfl) rfl rfl Kp.true (Y.assign rfl rfl) ?_
                  refine Jp.done hK21 ?_
                  refine Cd.cond rfl (fun g52 => ?_) (fun g52 => ?_)
                  · skip
                    try simp only [decide_eq_false_iff_not, decide_eq_true_eq, Int.not_lt, Int.not_le, Bool.not_eq_false, Bool.not_eq_true, Bool.not_true, Bool.not_false, Bool.not_eq_true', Bool.not_eq_false', beq_eq_false_iff_ne, ne_eq, beq_iff_eq, bne_iff_ne, bne_eq_false_iff_eq, Classical.not_not] at g52
                    refine Cd.seq fun K22 hK22 => ?_
                    have hidx : ([Value.int .u32 0, Value.int .u32 0, Value.int .u32 1, Value.int .u32 2, Value.int .u32 3, Value.int .u32 4, Value.int .u32 5, Value.int .u32 5, Value.int .u32 6, Value.int .u32 7] : List Value)[op - 28]? = some (.int .u32 ((formP op).2.1 : Int)) := by
                      rcases (show op = 28 ∨ op = 29 ∨ op = 30 ∨ op = 31 ∨ op = 32 ∨ op = 33 ∨ op = 34 ∨ op = 35 ∨ op = 36 ∨ op = 37 by omega) with rfl | rfl | rfl | rfl | rfl | rfl | rfl | rfl | rfl | rfl <;> rfl
                    have hidx2 : ([Value.int .u32 0, Value.int .u32 32, Value.int .u32 0, Value.int .u32 0, Value.int .u32 0, Value.int .u32 0, Value.int .u32 0, Value.int .u32 32, Value.int .u32 0, Value.int .u32 0] : List Value)[op - 28]? = some (.int .u32 ((formP op).2.2 : Int)) := by
                      rcases (show op = 28 ∨ op = 29 ∨ op = 30 ∨ op = 31 ∨ op = 32 ∨ op = 33 ∨ op = 34 ∨ op = 35 ∨ op = 36 ∨ op = 37 by omega) with rfl | rfl | rfl | rfl | rfl | rfl | rfl | rfl | rfl | rfl <;> rfl
                    refine Cd.drawnT [] trivial 13 (.q 1 (.q 2 (.q 6 (.q 7 (.q 10 (.f 0 (.q 3 (.f 4 (.q 11 (.l 5 (.q 8 (.l 9 (.q 12 .nil))))) 5 (.q 8 (.f 4 (.q 11 (.l 9 (.q 12 .nil))) 9 (.l 4 (.q 11 (.q 12 .nil))))))) 5 (.q 8 (.f 0 (.q 3 (.f 4 (.q 11 (.l 9 (.q 12 .nil))) 9 (.l 4 (.q 11 (.q 12 .nil))))) 9 (.l 0 (.q 3 (.l 4 (.q 11 (.q 12 .nil))))))))))))) follows (by kernel_rfl) (fun hrl => ?_)
                    refine JT.q 56 rfl (want_all rfl) rfl rfl (Y.move rfl rfl) ?_
                    refine JT.q 57 rfl (want_all rfl) rfl rfl (Y.sub_ rfl rfl rfl (by first | exact wrap_i64 (by omega) (by omega) | rfl)) ?_
                    refine JT.q 61 rfl (want_all rfl) rfl rfl (Y.move rfl rfl) ?_
                    refine JT.q 62 rfl (want_all rfl) rfl rfl (Y.sub_ rfl rfl rfl (by first | exact wrap_i64 (by omega) (by omega) | rfl)) ?_
                    refine JT.q 2 rfl (want_all rfl) rfl rfl (Y.assign rfl rfl) ?_
                    refine JT.fork ?_ ?_
                    · skip
                      refine JT.loud ?_
                      refine Jp.lit 55 7 [(0, _), (1, _), (2, _), (3, _), (4, _), (5, _), (6, _), (7, _), (8, _), (9, _)] [_, _, _, _, _, _, _, _, _, _] rfl (want_all rfl) rfl rfl rfl rfl Try.underlying22 Try.sizeOf23 Try.zeroValue23 rfl rfl rfl rfl rfl fun b7 => ⟨Kp.true, ?_⟩
                      refine JT.tail (KT.st trivial) ?_
                      refine JT.q 58 rfl (want_all rfl) rfl rfl (Y.indexAddr (q := op - 28) rfl rfl rfl Try.underlying22 Try.sizeOf23 (by omega) (by omega) (by omega)) ?_
                      refine JT.fork ?_ ?_
                      · skip
                        refine JT.loud ?_
                        refine Jp.y 59 rfl (want_all rfl) rfl rfl Kp.true (Y.loadS 7 (q := op - 28) rfl Try.isAgg23 rfl rfl rfl hidx) ?_
                        refine JT.tail (KT.st trivial) ?_
                        refine JT.q 3 rfl (want_all rfl) rfl rfl (Y.assign rfl rfl) ?_
                        refine JT.loud ?_
                        refine Jp.lit 60 8 [(0, _), (1, _), (2, _), (3, _), (4, _), (5, _), (6, _), (7, _), (8, _), (9, _)] [_, _, _, _, _, _, _, _, _, _] rfl (want_all rfl) rfl rfl rfl rfl Try.underlying22 Try.sizeOf23 Try.zeroValue23 rfl rfl rfl rfl rfl fun b8 => ⟨Kp.true, ?_⟩
                        refine JT.tail (KT.st trivial) ?_
                        refine JT.q 63 rfl (want_all rfl) rfl rfl (Y.indexAddr (q := op - 28) rfl rfl rfl Try.underlying22 Try.sizeOf23 (by omega) (by omega) (by omega)) ?_
                        refine JT.loud ?_
                        refine Jp.y 64 rfl (want_all rfl) rfl rfl Kp.true (Y.loadS 8 (q := op - 28) rfl Try.isAgg23 rfl rfl rfl hidx2) ?_
                        refine JT.tail (KT.st trivial) ?_
                        refine JT.q 4 rfl (want_all rfl) rfl rfl (Y.assign rfl rfl) ?_
                        refine JT.nil ?_
                        refine Jp.done hK22 ?_
                        refine Cd.ret [] rfl (res3 rfl rfl rfl rfl) trivial ⟨rfl, by rcases (show op = 28 ∨ op = 29 ∨ op = 30 ∨ op = 31 ∨ op = 32 ∨ op = 33 ∨ op = 34 ∨ op = 35 ∨ op = 36 ∨ op = 37 by omega) with rfl | rfl | rfl | rfl | rfl | rfl | rfl | rfl | rfl | rfl <;> rfl, rfl⟩
                      · skip
                        refine JT.loud ?_
                        refine Jp.lit 60 8 [(0, _), (1, _), (2, _), (3, _), (4, _), (5, _), (6, _), (7, _), (8, _), (9, _)] [_, _, _, _, _, _, _, _, _, _] rfl (want_all rfl) rfl rfl rfl rfl Try.underlying22 Try.sizeOf23 Try.zeroValue23 rfl rfl rfl rfl rfl fun b8 => ⟨Kp.true, ?_⟩
                        refine JT.tail (KT.st trivial) ?_
                        refine JT.q 63 rfl (want_all rfl) rfl rfl (Y.indexAddr (q := op - 28) rfl rfl rfl Try.underlying22 Try.sizeOf23 (by omega) (by omega) (by omega)) ?_
                        refine JT.fork ?_ ?_
                        · skip
                          refine JT.loud ?_
                          refine Jp.y 59 rfl (want_all rfl) rfl rfl Kp.true (Y.loadS 7 (q := op - 28) rfl Try.isAgg23 rfl rfl rfl hidx) ?_
                          refine JT.tail (KT.st trivial) ?_
                          refine JT.q 3 rfl (want_all rfl) rfl rfl (Y.assign rfl rfl) ?_
                          refine JT.loud ?_
                          refine Jp.y 64 rfl (want_all rfl) rfl rfl Kp.true (Y.loadS 8 (q := op - 28) rfl Try.isAgg23 rfl rfl rfl hidx2) ?_
                          refine JT.tail (KT.st trivial) ?_
                          refine JT.q 4 rfl (want_all rfl) rfl rfl (Y.assign rfl rfl) ?_
                          refine JT.nil ?_
                          refine Jp.done hK22 ?_
                          refine Cd.ret [] rfl (res3 rfl rfl rfl rfl) trivial ⟨rfl, by rcases (show op = 28 ∨ op = 29 ∨ op = 30 ∨ op = 31 ∨ op = 32 ∨ op = 33 ∨ op = 34 ∨ op = 35 ∨ op = 36 ∨ op = 37 by omega) with rfl | rfl | rfl | rfl | rfl | rfl | rfl | rfl | rfl | rfl <;> rfl, rfl⟩
                        · skip
                          refine JT.loud ?_
                          refine Jp.y 64 rfl (want_all rfl) rfl rfl Kp.true (Y.loadS 8 (q := op - 28) rfl Try.isAgg23 rfl rfl rfl hidx2) ?_
                          refine JT.tail (KT.st trivial) ?_
                          refine JT.loud ?_
                          refine Jp.y 59 rfl (want_all rfl) rfl rfl Kp.true (Y.loadS 7 (q := op - 28) rfl Try.isAgg23 rfl rfl rfl hidx) ?_
                          refine JT.tail (KT.st trivial) ?_
                          refine JT.q 3 rfl (want_all rfl) rfl rfl (Y.assign rfl rfl) ?_
                          refine JT.q 4 rfl (want_all rfl) rfl rfl (Y.assign rfl rfl) ?_
                          refine JT.nil ?_
                          refine Jp.done hK22 ?_
                          refine Cd.ret [] rfl (res3 rfl rfl rfl rfl) trivial ⟨rfl, by rcases (show op = 28 ∨ op = 29 ∨ op = 30 ∨ op = 31 ∨ op = 32 ∨ op = 33 ∨ op = 34 ∨ op = 35 ∨ op = 36 ∨ op = 37 by omega) with rfl | rfl | rfl | rfl | rfl | rfl | rfl | rfl | rfl | rfl <;> rfl, rfl⟩
                    · skip
                      refine JT.loud ?_
                      refine Jp.lit 60 8 [(0, _), (1, _), (2, _), (3, _), (4, _), (5, _), (6, _), (7, _), (8, _), (9, _)] [_, _, _, _, _, _, _, _, _, _] rfl (want_all rfl) rfl rfl rfl rfl Try.underlying22 Try.sizeOf23 Try.zeroValue23 rfl rfl rfl rfl rfl fun b8 => ⟨Kp.true, ?_⟩
                      refine JT.tail (KT.st trivial) ?_
                      refine JT.q 63 rfl (want_all rfl) rfl rfl (Y.indexAddr (q := op - 28) rfl rfl rfl Try.underlying22 Try.sizeOf23 (by omega) (by omega) (by omega)) ?_
                      refine JT.fork ?_ ?_
                      · skip
                        refine JT.loud ?_
                        refine Jp.lit 55 7 [(0, _), (1, _), (2, _), (3, _), (4, _), (5, _), (6, _), (7, _), (8, _), (9, _)] [_, _, _, _, _, _, _, _, _, _] rfl (want_all rfl) rfl rfl rfl rfl Try.underlying22 Try.sizeOf23 Try.zeroValue23 rfl rfl rfl rfl rfl fun b7 => ⟨Kp.true, ?_⟩
                        refine JT.tail (KT.st trivial) ?_
                        refine JT.q 58 rfl (want_all rfl) rfl rfl (Y.indexAddr (q := op - 28) rfl rfl rfl Try.underlying22 Try.sizeOf23 (by omega) (by omega) (by omega)) ?_
                        refine JT.fork ?_ ?_
                        · skip
                          refine JT.loud ?_
                          refine Jp.y 59 rfl (want_all rfl) rfl rfl Kp.true (Y.loadS 7 (q := op - 28) rfl Try.isAgg23 rfl rfl rfl hidx) ?_
                          refine JT.tail (KT.st trivial) ?_
                          refine JT.q 3 rfl (want_all rfl) rfl rfl (Y.assign rfl rfl) ?_
                          refine JT.loud ?_
                          refine Jp.y 64 rfl (want_all rfl) rfl rfl Kp.true (Y.loadS 8 (q := op - 28) rfl Try.isAgg23 rfl rfl rfl hidx2) ?_
                          refine JT.tail (KT.st trivial) ?_
                          refine JT.q 4 rfl (want_all rfl) rfl rfl (Y.assign rfl rfl) ?_
                          refine JT.nil ?_
                          refine Jp.done hK22 ?_
                          refine Cd.ret [] rfl (res3 rfl rfl rfl rfl) trivial ⟨rfl, by rcases (show op = 28 ∨ op = 29 ∨ op = 30 ∨ op = 31 ∨ op = 32 ∨ op = 33 ∨ op = 34 ∨ op = 35 ∨ op = 36 ∨ op = 37 by omega) with rfl | rfl | rfl | rfl | rfl | rfl | rfl | rfl | rfl | rfl <;> rfl, rfl⟩
                        · skip
                          refine JT.loud ?_
                          refine Jp.y 64 rfl (want_all rfl) rfl rfl Kp.true (Y.loadS 8 (q := op - 28) rfl Try.isAgg23 rfl rfl rfl hidx2) ?_
                          refine JT.tail (KT.st trivial) ?_
                          refine JT.loud ?_
                          refine Jp.y 59 rfl (want_all rfl) rfl rfl Kp.true (Y.loadS 7 (q := op - 28) rfl Try.isAgg23 rfl rfl rfl hidx) ?_
                          refine JT.tail (KT.st trivial) ?_
                          refine JT.q 3 rfl (want_all rfl) rfl rfl (Y.assign rfl rfl) ?_
                          refine JT.q 4 rfl (want_all rfl) rfl rfl (Y.assign rfl rfl) ?_
                          refine JT.nil ?_
                          refine Jp.done hK22 ?_
                          refine Cd.ret [] rfl (res3 rfl rfl rfl rfl) trivial ⟨rfl, by rcases (show op = 28 ∨ op = 29 ∨ op = 30 ∨ op = 31 ∨ op = 32 ∨ op = 33 ∨ op = 34 ∨ op = 35 ∨ op = 36 ∨ op = 37 by omega) with rfl | rfl | rfl | rfl | rfl | rfl | rfl | rfl | rfl | rfl <;> rfl, rfl⟩
                      · skip
                        refine JT.loud ?_
                        refine Jp.y 64 rfl (want_all rfl) rfl rfl Kp.true (Y.loadS 8 (q := op - 28) rfl Try.isAgg23 rfl rfl rfl hidx2) ?_
                        refine JT.tail (KT.st trivial) ?_
                        refine JT.loud ?_
                        refine Jp.lit 55 7 [(0, _), (1, _), (2, _), (3, _), (4, _), (5, _), (6, _), (7, _), (8, _), (9, _)] [_, _, _, _, _, _, _, _, _, _] rfl (want_all rfl) rfl rfl rfl rfl Try.underlying22 Try.sizeOf23 Try.zeroValue23 rfl rfl rfl rfl rfl fun b7 => ⟨Kp.true, ?_⟩
                        refine JT.tail (KT.st trivial) ?_
                        refine JT.q 58 rfl (want_all rfl) rfl rfl (Y.indexAddr (q := op - 28) rfl rfl rfl Try.underlying22 Try.sizeOf23 (by omega) (by omega) (by omega)) ?_
                        refine JT.loud ?_
                        refine Jp.y 59 rfl (want_all rfl) rfl rfl Kp.true (Y.loadS 7 (q := op - 28) rfl Try.isAgg23 rfl rfl rfl hidx) ?_
                        refine JT.tail (KT.st trivial) ?_
                        refine JT.q 3 rfl (want_all rfl) rfl rfl (Y.assign rfl rfl) ?_
                        refine JT.q 4 rfl (want_all rfl) rfl rfl (Y.assign rfl rfl) ?_
                        refine JT.nil ?_
                        refine Jp.done hK22 ?_
                        refine Cd.ret [] rfl (res3 rfl rfl rfl rfl) trivial ⟨rfl, by rcases (show op = 28 ∨ op = 29 ∨ op = 30 ∨ op = 31 ∨ op = 32 ∨ op = 33 ∨ op = 34 ∨ op = 35 ∨ op = 36 ∨ op = 37 by omega) with rfl | rfl | rfl | rfl | rfl | rfl | rfl | rfl | rfl | rfl <;> rfl, rfl⟩
                  · skip
                    try simp only [decide_eq_false_iff_not, decide_eq_true_eq, Int.not_lt, Int.not_le, Bool.not_eq_false, Bool.not_eq_true, Bool.not_true, Bool.not_false, Bool.not_eq_true', Bool.not_eq_false', beq_eq_false_iff_ne, ne_eq, beq_iff_eq, bne_iff_ne, bne_eq_false_iff_eq, Classical.not_not] at g52
                    refine Cd.seq fun K23 hK23 => ?_
                    refine Cd.plain [(0, false), (1, false), (2, false)] rfl rfl ?_
                    refine Jp.y 66 rfl (want_all rfl) rfl rfl Kp.true (Y.move rfl rfl) ?_
                    refine Jp.y 67 rfl (want_all rfl) rfl rfl Kp.true (Y.leq rfl rfl rfl) ?_
                    refine Jp.y 65 rfl (want_all rfl) rfl rfl Kp.true (Y.assign rfl rfl) ?_
                    refine Jp.done hK23 ?_
                    refine Cd.cond rfl (fun g65 => ?_) (fun g65 => ?_)
                    · skip
                      try simp only [decide_eq_false_iff_not, decide_eq_true_eq, Int.not_lt, Int.not_le, Bool.not_eq_false, Bool.not_eq_true, Bool.not_true, Bool.not_false, Bool.not_eq_true', Bool.not_eq_false', beq_eq_false_iff_ne, ne_eq, beq_iff_eq, bne_iff_ne, bne_eq_false_iff_eq, Classical.not_not] at g65
                      refine Cd.seq fun K24 hK24 => ?_
                      refine Cd.plain [(0, false), (1, false), (2, false), (3, false), (4, false), (5, false)] rfl rfl ?_
                      refine Jp.y 68 rfl (want_all rfl) rfl rfl Kp.true (Y.move rfl rfl) ?_
                      refine Jp.y 69 rfl (want_all rfl) rfl rfl Kp.true (Y.sub_ rfl rfl rfl (by first | exact wrap_i64 (by omega) (by omega) | rfl)) ?_
                      refine Jp.y 70 rfl (want_all rfl) rfl rfl Kp.true (Y.conv_ rfl rfl Try.underlying3 Try.underlying23 (by first | exact wrap_u32 (by omega) (by omega) | rfl)) ?_
                      refine Jp.y 2 rfl (want_all rfl) rfl rfl Kp.true (Y.assign rfl rfl) ?_
                      refine Jp.y 3 rfl (want_all rfl) rfl rfl Kp.true (Y.assign rfl rfl) ?_
                      refine Jp.y 4 rfl (want_all rfl) rfl rfl Kp.true (Y.assign rfl rfl) ?_
                      refine Jp.done hK24 ?_
                      refine Cd.ret [] rfl (res3 rfl rfl rfl rfl) trivial ⟨rfl, by
                        first
                        | (exfalso; omega)
                        | (obtain rfl : op = 1 := by omega
                           rfl)
                        | (obtain rfl : op = 2 := by omega
                           rfl)
                        | (obtain rfl : op = 3 := by omega
                           rfl)
                        | (obtain rfl : op = 4 := by omega
                           rfl)
                        | (rcases (show op = 16 ∨ op = 17 ∨ op = 18 by omega) with rfl | rfl | rfl <;> rfl)
                        | (rcases (show op = 38 ∨ op = 39 ∨ op = 40 ∨ op = 41 ∨ op = 42 ∨ op = 43 ∨ op = 44 ∨ op = 45 by omega) with rfl | rfl | rfl | rfl | rfl | rfl | rfl | rfl <;> rfl)
                        | (rcases (show op = 46 ∨ op = 47 by omega) with rfl | rfl <;> rfl), rfl⟩
                    · skip
                      try simp only [decide_eq_false_iff_not, decide_eq_true_eq, Int.not_lt, Int.not_le, Bool.not_eq_false, Bool.not_eq_true, Bool.not_true, Bool.not_false, Bool.not_eq_true', Bool.not_eq_false', beq_eq_false_iff_ne, ne_eq, beq_iff_eq, bne_iff_ne, bne_eq_false_iff_eq, Classical.not_not] at g65
                      refine Cd.over rfl hK2 ?_
                      refine Cd.seq fun K25 hK25 => ?_
                      refine Cd.plain [(0, false), (1, false), (2, false), (3, false), (4, false), (5, false)] rfl rfl ?_
                      refine Jp.y 71 rfl (want_all rfl) rfl rfl Kp.true (Y.move rfl rfl) ?_
                      refine Jp.y 72 rfl (want_all rfl) rfl rfl Kp.true (Y.sub_ rfl rfl rfl (by first | exact wrap_i64 (by omega) (by omega) | rfl)) ?_
                      refine Jp.y 73 rfl (want_all rfl) rfl rfl Kp.true (Y.conv_ rfl rfl Try.underlying3 Try.underlying23 (by first | exact wrap_u32 (by omega) (by omega) | rfl)) ?_
                      refine Jp.y 2 rfl (want_all rfl) rfl rfl Kp.true (Y.assign rfl rfl) ?_
                      refine Jp.y 3 rfl (want_all rfl) rfl rfl Kp.true (Y.assign rfl rfl) ?_
                      refine Jp.y 4 rfl (want_all rfl) rfl rfl Kp.true (Y.assign rfl rfl) ?_
                      refine Jp.done hK25 ?_
                      refine Cd.ret [] rfl (res3 rfl rfl rfl rfl) trivial ⟨rfl, by
                        first
                        | (exfalso; omega)
                        | (obtain rfl : op = 1 := by omega
                           rfl)
                        | (obtain rfl : op = 2 := by omega
                           rfl)
                        | (obtain rfl : op = 3 := by omega
                           rfl)
                        | (obtain rfl : op = 4 := by omega
                           rfl)
                        | (rcases (show op = 16 ∨ op = 17 ∨ op = 18 by omega) with rfl | rfl | rfl <;> rfl)
                        | (rcases (show op = 38 ∨ op = 39 ∨ op = 40 ∨ op = 41 ∨ op = 42 ∨ op = 43 ∨ op = 44 ∨ op = 45 by omega) with rfl | rfl | rfl | rfl | rfl | rfl | rfl | rfl <;> rfl)
                        | (rcases (show op = 46 ∨ op = 47 by omega) with rfl | rfl <;> rfl), rfl⟩
end Go.Proofs.Ytjfgefdcngpplaa
