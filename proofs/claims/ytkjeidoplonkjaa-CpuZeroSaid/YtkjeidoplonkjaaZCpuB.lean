import Derived.Test.YtkjeidoplonkjaaZCpuA
set_option linter.unusedVariables false
set_option linter.unusedSimpArgs false
set_option maxRecDepth 100000
namespace Go.Proofs.Ytkjeidoplonkjaa
open Go
structure InsOk (i : InsP) : Prop where
  op : i.op < 50
  rd : i.rd < 32
  r1 : i.r1 < 32
  r2 : i.r2 < 32
  imm : -2147483648 ≤ i.imm ∧ i.imm ≤ 2147483647
theorem address_spec (i : InsP) (s : StP) (hs : StOk s) (hi : InsOk i) : Spec Try.prog 65 #[.agg i.cells.toArray, .agg s.cells.toArray] (fun _ => True) [] (fun ρ ρ' v L => ρ' = ρ ∧ v = .int .u32 (addrP i s : Int) ∧ L = []) := by
  obtain ⟨op, rd, r1, r2, imm⟩ := i
  refine Spec.of 13 Try.func65 rfl Try.ntmps65 [(0, _), (1, _)] rfl rfl ?_
  intro cx ρ hr' h0
  have hsl := StP.len hs
  refine Cd.seq fun K1 hK1 => ?_
  refine Cd.plain [(0, false), (1, false), (2, false)] rfl rfl ?_
  refine Jp.box 2 2 rfl (want_all rfl) rfl rfl rfl rfl fun b2 => ⟨Kp.true, ?_⟩
  refine Jp.box 3 3 rfl (want_all rfl) rfl rfl rfl rfl fun b3 => ⟨Kp.true, ?_⟩
  refine Jp.y 4 rfl (want_all rfl) rfl rfl Kp.true (Y.assign rfl rfl) ?_
  refine Jp.done hK1 ?_
  refine Cd.seq fun K2 hK2 => ?_
  refine Cd.drawn [(2, _), (3, _)] ⟨rfl, rfl, trivial⟩ [(0, true), (1, true), (2, true), (4, true), (5, true), (6, true), (3, false), (7, true), (8, true)] follows (by kernel_rfl) (fun hrl => ?_)
  refine Jp.q 5 rfl (want_all rfl) rfl rfl (by first | exact Y.loadAggO 2 rfl Try.isAgg32 Try.sizeOf32 rfl rfl (by first | rfl | assumption) | exact Y.loadAggO 3 rfl Try.isAgg32 Try.sizeOf32 rfl rfl (by first | rfl | assumption) | exact Y.loadAggO 2 rfl Try.isAgg32 Try.sizeOf32 rfl rfl (by first | rfl | assumption) | exact Y.loadAggO 3 rfl Try.isAgg32 Try.sizeOf32 rfl rfl (by first | rfl | assumption)) ?_
  refine Jp.q 6 rfl (want_all rfl) rfl rfl (by first | exact Y.fieldAddrP rfl rfl Try.underlying28 rfl Try.sizeOf3 (by decide) (show _ + 2 = _ from rfl) | exact Y.fieldAddr rfl rfl Try.underlying28 rfl Try.sizeOf3 (by decide)) ?_
  refine Jp.q 7 rfl (want_all rfl) rfl rfl (by first | exact Y.loadO 2 rfl Try.isAgg3 rfl rfl rfl | exact Y.loadO 3 rfl Try.isAgg3 rfl rfl rfl | exact Y.loadO 2 rfl Try.isAgg3 rfl rfl rfl | exact Y.loadO 3 rfl Try.isAgg3 rfl rfl rfl) ?_
  refine Jp.q 9 rfl (want_all rfl) rfl rfl (by first | exact Y.fieldAddrP rfl rfl Try.underlying28 rfl Try.sizeOf21 (by decide) (show _ + 4 = _ from rfl) | exact Y.fieldAddr rfl rfl Try.underlying28 rfl Try.sizeOf21 (by decide)) ?_
  refine Jp.q 10 rfl (want_all rfl) rfl rfl (by first | exact Y.loadO 2 rfl Try.isAgg21 rfl rfl rfl | exact Y.loadO 3 rfl Try.isAgg21 rfl rfl rfl | exact Y.loadO 2 rfl Try.isAgg21 rfl rfl rfl | exact Y.loadO 3 rfl Try.isAgg21 rfl rfl rfl) ?_
  refine Jp.q 11 rfl (want_all rfl) rfl rfl (Y.conv_ rfl rfl Try.underlying21 Try.underlying25 (by first | exact wrap_u32 (by omega) (by omega) | rfl)) ?_
  refine Jp.call [] [] (reg_spec s r1 hs hi.r1) 8 rfl (want_all rfl) rfl rfl (Runs.fn rfl Try.call66 rfl) (by decide) (by decide) rfl trivial ?_
  rintro v1 ρ1 L1 ⟨rfl, rfl, rfl⟩
  refine ⟨rfl, fun hle1 => ⟨(Kp.st ⟨rfl, rfl, trivial⟩), ?_⟩⟩
  refine Jp.q 12 rfl (want_all rfl) rfl rfl (Y.add_ rfl rfl rfl (by first | exact wrap_u32 (by omega) (by omega) | rfl)) ?_
  refine Jp.q 4 rfl (want_all rfl) rfl rfl (Y.assign rfl rfl) ?_
  refine Jp.done hK2 ?_
  refine Cd.ret [] rfl (res1 rfl rfl) trivial ⟨rfl, by rw [wrap_u imm, wrap_u]; rfl, rfl⟩
def sizeP (op : Nat) : Nat × Bool := if op = 11 then (1, true) else if op = 12 then (2, true) else if op = 14 ∨ op = 16 then (1, false) else if op = 15 ∨ op = 17 then (2, false) else (4, false)
theorem size_spec (op : Nat) : Spec Try.prog 63 #[.int .i64 op] (fun _ => True) [] (fun ρ ρ' v L => ρ' = ρ ∧ v = .tuple #[.int .i64 ((sizeP op).1 : Int), .bool (sizeP op).2] ∧ L = []) := by
  refine Spec.of 15 Try.func63 rfl Try.ntmps63 [(0, _)] rfl rfl ?_
  intro cx ρ hr' h0
  refine Cd.seq fun K4 hK4 => ?_
  refine Cd.plain [(0, false), (1, false)] rfl rfl ?_
  refine Jp.y 2 rfl (want_all rfl) rfl rfl Kp.true (Y.assign rfl rfl) ?_
  refine Jp.y 3 rfl (want_all rfl) rfl rfl Kp.true (Y.assign rfl rfl) ?_
  refine Jp.done hK4 ?_
  refine Cd.seq fun K5 hK5 => ?_
  refine Cd.seq fun K6 hK6 => ?_
  refine Cd.plain [(0, false)] rfl rfl ?_
  refine Jp.y 4 rfl (want_all rfl) rfl rfl Kp.true (Y.move rfl rfl) ?_
  refine Jp.done hK6 ?_
  refine Cd.block ?_
  refine Cd.seq fun K7 hK7 => ?_
  refine Cd.plain [(0, false), (1, false)] rfl rfl ?_
  refine Jp.y 6 rfl (want_all rfl) rfl rfl Kp.true (Y.eql rfl rfl rfl) ?_
  refine Jp.y 5 rfl (want_all rfl) rfl rfl Kp.true (Y.assign rfl rfl) ?_
  refine Jp.done hK7 ?_
  refine Cd.cond rfl (fun g5 => ?_) (fun g5 => ?_)
  · skip
    try simp only [decide_eq_false_iff_not, decide_eq_true_eq, Int.not_lt, Int.not_le, Bool.not_eq_false, Bool.not_eq_true, Bool.not_true, Bool.not_false, Bool.not_eq_true', Bool.not_eq_false', beq_eq_false_iff_ne, ne_eq, beq_iff_eq, bne_iff_ne, bne_eq_false_iff_eq, Classical.not_not] at g5
    refine Cd.seq fun K8 hK8 => ?_
    refine Cd.plain [(0, false), (1, false)] rfl rfl ?_
    refine Jp.y 2 rfl (want_all rfl) rfl rfl Kp.true (Y.assign rfl rfl) ?_
    refine Jp.y 3 rfl (want_all rfl) rfl rfl Kp.true (Y.assign rfl rfl) ?_
    refine Jp.done hK8 ?_
    refine Cd.ret [] rfl (res2 rfl rfl rfl) trivial ⟨rfl, by first | (exfalso; omega) | (unfold sizeP; repeat first | rfl | rw [if_pos (by omega)] | rw [if_neg (by omega)]), rfl⟩
  · skip
    try simp only [decide_eq_false_iff_not, decide_eq_true_eq, Int.not_lt, Int.not_le, Bool.not_eq_false, Bool.not_eq_true, Bool.not_true, Bool.not_false, Bool.not_eq_true', Bool.not_eq_false', beq_eq_false_iff_ne, ne_eq, beq_iff_eq, bne_iff_ne, bne_eq_false_iff_eq, Classical.not_not] at g5
    refine Cd.seq fun K9 hK9 => ?_
    refine Cd.plain [(0, false), (1, false)] rfl rfl ?_
    refine Jp.y 8 rfl (want_all rfl) rfl rfl Kp.true (Y.eql rfl rfl rfl) ?_
    refine Jp.y 7 rfl (want_all rfl) rfl rfl Kp.true (Y.assign rfl rfl) ?_
    refine Jp.done hK9 ?_
    refine Cd.cond rfl (fun g7 => ?_) (fun g7 => ?_)
    · skip
      try simp only [decide_eq_false_iff_not, decide_eq_true_eq, Int.not_lt, Int.not_le, Bool.not_eq_false, Bool.not_eq_true, Bool.not_true, Bool.not_false, Bool.not_eq_true', Bool.not_eq_false', beq_eq_false_iff_ne, ne_eq, beq_iff_eq, bne_iff_ne, bne_eq_false_iff_eq, Classical.not_not] at g7
      refine Cd.seq fun K10 hK10 => ?_
      refine Cd.plain [(0, false), (1, false)] rfl rfl ?_
      refine Jp.y 2 rfl (want_all rfl) rfl rfl Kp.true (Y.assign rfl rfl) ?_
      refine Jp.y 3 rfl (want_all rfl) rfl rfl Kp.true (Y.assign rfl rfl) ?_
      refine Jp.done hK10 ?_
      refine Cd.ret [] rfl (res2 rfl rfl rfl) trivial ⟨rfl, by first | (exfalso; omega) | (unfold sizeP; repeat first | rfl | rw [if_pos (by omega)] | rw [if_neg (by omega)]), rfl⟩
    · skip
      try simp only [decide_eq_false_iff_not, decide_eq_true_eq, Int.not_lt, Int.not_le, Bool.not_eq_false, Bool.not_eq_true, Bool.not_true, Bool.not_false, Bool.not_eq_true', Bool.not_eq_false', beq_eq_false_iff_ne, ne_eq, beq_iff_eq, bne_iff_ne, bne_eq_false_iff_eq, Classical.not_not] at g7
      refine Cd.seq fun K11 hK11 => ?_
      refine Cd.seq fun K12 hK12 => ?_
      refine Cd.plain [(0, false), (1, false)] rfl rfl ?_
      refine Jp.y 10 rfl (want_all rfl) rfl rfl Kp.true (Y.eql rfl rfl rfl) ?_
      refine Jp.y 9 rfl (want_all rfl) rfl rfl Kp.true (Y.assign rfl rfl) ?_
      refine Jp.done hK12 ?_
      refine Cd.cond rfl (fun g9 => ?_) (fun g9 => ?_)
      · skip
        try simp only [decide_eq_false_iff_not, decide_eq_true_eq, Int.not_lt, Int.not_le, Bool.not_eq_false, Bool.not_eq_true, Bool.not_true, Bool.not_false, Bool.not_eq_true', Bool.not_eq_false', beq_eq_false_iff_ne, ne_eq, beq_iff_eq, bne_iff_ne, bne_eq_false_iff_eq, Classical.not_not] at g9
        refine Cd.skip hK11 ?_
        refine Cd.cond rfl (fun g9 => ?_) (fun g9 => ?_)
        · skip
          try simp only [decide_eq_false_iff_not, decide_eq_true_eq, Int.not_lt, Int.not_le, Bool.not_eq_false, Bool.not_eq_true, Bool.not_true, Bool.not_false, Bool.not_eq_true', Bool.not_eq_false', beq_eq_false_iff_ne, ne_eq, beq_iff_eq, bne_iff_ne, bne_eq_false_iff_eq, Classical.not_not] at g9
          refine Cd.seq fun K13 hK13 => ?_
          refine Cd.plain [(0, false), (1, false)] rfl rfl ?_
          refine Jp.y 2 rfl (want_all rfl) rfl rfl Kp.true (Y.assign rfl rfl) ?_
          refine Jp.y 3 rfl (want_all rfl) rfl rfl Kp.true (Y.assign rfl rfl) ?_
          refine Jp.done hK13 ?_
          refine Cd.ret [] rfl (res2 rfl rfl rfl) trivial ⟨rfl, by first | (exfalso; omega) | (unfold sizeP; repeat first | rfl | rw [if_pos (by omega)] | rw [if_neg (by omega)]), rfl⟩
        · skip
          try simp only [decide_eq_false_iff_not, decide_eq_true_eq, Int.not_lt, Int.not_le, Bool.not_eq_false, Bool.not_eq_true, Bool.not_true, Bool.not_false, Bool.not_eq_true', Bool.not_eq_false', beq_eq_false_iff_ne, ne_eq, beq_iff_eq, bne_iff_ne, bne_eq_false_iff_eq, Classical.not_not] at g9
          refine Cd.seq fun K14 hK14 => ?_
          refine Cd.seq fun K15 hK15 => ?_
          refine Cd.plain [(0, false), (1, false)] rfl rfl ?_
          refine Jp.y 13 rfl (want_all rfl) rfl rfl Kp.true (Y.eql rfl rfl rfl) ?_
          refine Jp.y 12 rfl (want_all rfl) rfl rfl Kp.true (Y.assign rfl rfl) ?_
          refine Jp.done hK15 ?_
          refine Cd.cond rfl (fun g12 => ?_) (fun g12 => ?_)
          · skip
            try simp only [decide_eq_false_iff_not, decide_eq_true_eq, Int.not_lt, Int.not_le, Bool.not_eq_false, Bool.not_eq_true, Bool.not_true, Bool.not_false, Bool.not_eq_true', Bool.not_eq_false', beq_eq_false_iff_ne, ne_eq, beq_iff_eq, bne_iff_ne, bne_eq_false_iff_eq, Classical.not_not] at g12
            refine Cd.skip hK14 ?_
            refine Cd.cond rfl (fun g12 => ?_) (fun g12 => ?_)
            · skip
              try simp only [decide_eq_false_iff_not, decide_eq_true_eq, Int.not_lt, Int.not_le, Bool.not_eq_false, Bool.not_eq_true, Bool.not_true, Bool.not_false, Bool.not_eq_true', Bool.not_eq_false', beq_eq_false_iff_ne, ne_eq, beq_iff_eq, bne_iff_ne, bne_eq_false_iff_eq, Classical.not_not] at g12
              refine Cd.seq fun K16 hK16 => ?_
              refine Cd.plain [(0, false), (1, false)] rfl rfl ?_
              refine Jp.y 2 rfl (want_all rfl) rfl rfl Kp.true (Y.assign rfl rfl) ?_
              refine Jp.y 3 rfl (want_all rfl) rfl rfl Kp.true (Y.assign rfl rfl) ?_
              refine Jp.done hK16 ?_
              refine Cd.ret [] rfl (res2 rfl rfl rfl) trivial ⟨rfl, by first | (exfalso; omega) | (unfold sizeP; repeat first | rfl | rw [if_pos (by omega)] | rw [if_neg (by omega)]), rfl⟩
            · skip
              try simp only [decide_eq_false_iff_not, decide_eq_true_eq, Int.not_lt, Int.not_le, Bool.not_eq_false, Bool.not_eq_true, Bool.not_true, Bool.not_false, Bool.not_eq_true', Bool.not_eq_false', beq_eq_false_iff_ne, ne_eq, beq_iff_eq, bne_iff_ne, bne_eq_false_iff_eq, Classical.not_not] at g12
              refine Cd.over rfl hK5 ?_
              refine Cd.seq fun K17 hK17 => ?_
              refine Cd.plain [(0, false), (1, false)] rfl rfl ?_
              refine Jp.y 2 rfl (want_all rfl) rfl rfl Kp.true (Y.assign rfl rfl) ?_
              refine Jp.y 3 rfl (want_all rfl) rfl rfl Kp.true (Y.assign rfl rfl) ?_
              refine Jp.done hK17 ?_
              refine Cd.ret [] rfl (res2 rfl rfl rfl) trivial ⟨rfl, by first | (exfalso; omega) | (unfold sizeP; repeat first | rfl | rw [if_pos (by omega)] | rw [if_neg (by omega)]), rfl⟩
          · skip
            try simp only [decide_eq_false_iff_not, decide_eq_true_eq, Int.not_lt, Int.not_le, Bool.not_eq_false, Bool.not_eq_true, Bool.not_true, Bool.not_false, Bool.not_eq_true', Bool.not_eq_false', beq_eq_false_iff_ne, ne_eq, beq_iff_eq, bne_iff_ne, bne_eq_false_iff_eq, Classical.not_not] at g12
            refine Cd.plain [(0, false), (1, false)] rfl rfl ?_
            refine Jp.y 14 rfl (want_all rfl) rfl rfl Kp.true (Y.eql rfl rfl rfl) ?_
            refine Jp.y 12 rfl (want_all rfl) rfl rfl Kp.true (Y.assign rfl rfl) ?_
            refine Jp.done hK14 ?_
            refine Cd.cond rfl (fun g12 => ?_) (fun g12 => ?_)
            · skip
              try simp only [decide_eq_false_iff_not, decide_eq_true_eq, Int.not_lt, Int.not_le, Bool.not_eq_false, Bool.not_eq_true, Bool.not_true, Bool.not_false, Bool.not_eq_true', Bool.not_eq_false', beq_eq_false_iff_ne, ne_eq, beq_iff_eq, bne_iff_ne, bne_eq_false_iff_eq, Classical.not_not] at g12
              refine Cd.seq fun K18 hK18 => ?_
              refine Cd.plain [(0, false), (1, false)] rfl rfl ?_
              refine Jp.y 2 rfl (want_all rfl) rfl rfl Kp.true (Y.assign rfl rfl) ?_
              refine Jp.y 3 rfl (want_all rfl) rfl rfl Kp.true (Y.assign rfl rfl) ?_
              refine Jp.done hK18 ?_
              refine Cd.ret [] rfl (res2 rfl rfl rfl) trivial ⟨rfl, by first | (exfalso; omega) | (unfold sizeP; repeat first | rfl | rw [if_pos (by omega)] | rw [if_neg (by omega)]), rfl⟩
            · skip
              try simp only [decide_eq_false_iff_not, decide_eq_true_eq, Int.not_lt, Int.not_le, Bool.not_eq_false, Bool.not_eq_true, Bool.not_true, Bool.not_false, Bool.not_eq_true', Bool.not_eq_false', beq_eq_false_iff_ne, ne_eq, beq_iff_eq, bne_iff_ne, bne_eq_false_iff_eq, Classical.not_not] at g12
              refine Cd.over rfl hK5 ?_
              refine Cd.seq fun K19 hK19 => ?_
              refine Cd.plain [(0, false), (1, false)] rfl rfl ?_
              refine Jp.y 2 rfl (want_all rfl) rfl rfl Kp.true (Y.assign rfl rfl) ?_
              refine Jp.y 3 rfl (want_all rfl) rfl rfl Kp.true (Y.assign rfl rfl) ?_
              refine Jp.done hK19 ?_
              refine Cd.ret [] rfl (res2 rfl rfl rfl) trivial ⟨rfl, by first | (exfalso; omega) | (unfold sizeP; repeat first | rfl | rw [if_pos (by omega)] | rw [if_neg (by omega)]), rfl⟩
      · skip
        try simp only [decide_eq_false_iff_not, decide_eq_true_eq, Int.not_lt, Int.not_le, Bool.not_eq_false, Bool.not_eq_true, Bool.not_true, Bool.not_false, Bool.not_eq_true', Bool.not_eq_false', beq_eq_false_iff_ne, ne_eq, beq_iff_eq, bne_iff_ne, bne_eq_false_iff_eq, Classical.not_not] at g9
        refine Cd.plain [(0, false), (1, false)] rfl rfl ?_
        refine Jp.y 11 rfl (want_all rfl) rfl rfl Kp.true (Y.eql rfl rfl rfl) ?_
        refine Jp.y 9 rfl (want_all rfl) rfl rfl Kp.true (Y.assign rfl rfl) ?_
        refine Jp.done hK11 ?_
        refine Cd.cond rfl (fun g9 => ?_) (fun g9 => ?_)
        · skip
          try simp only [decide_eq_false_iff_not, decide_eq_true_eq, Int.not_lt, Int.not_le, Bool.not_eq_false, Bool.not_eq_true, Bool.not_true, Bool.not_false, Bool.not_eq_true', Bool.not_eq_false', beq_eq_false_iff_ne, ne_eq, beq_iff_eq, bne_iff_ne, bne_eq_false_iff_eq, Classical.not_not] at g9
          refine Cd.seq fun K20 hK20 => ?_
          refine Cd.plain [(0, false), (1, false)] rfl rfl ?_
          refine Jp.y 2 rfl (want_all rfl) rfl rfl Kp.true (Y.assign rfl rfl) ?_
          refine Jp.y 3 rfl (want_all rfl) rfl rfl Kp.true (Y.assign rfl rfl) ?_
          refine Jp.done hK20 ?_
          refine Cd.ret [] rfl (res2 rfl rfl rfl) trivial ⟨rfl, by first | (exfalso; omega) | (unfold sizeP; repeat first | rfl | rw [if_pos (by omega)] | rw [if_neg (by omega)]), rfl⟩
        · skip
          try simp only [decide_eq_false_iff_not, decide_eq_true_eq, Int.not_lt, Int.not_le, Bool.not_eq_false, Bool.not_eq_true, Bool.not_true, Bool.not_false, Bool.not_eq_true', Bool.not_eq_false', beq_eq_false_iff_ne, ne_eq, beq_iff_eq, bne_iff_ne, bne_eq_false_iff_eq, Classical.not_not] at g9
          refine Cd.seq fun K21 hK21 => ?_
          refine Cd.seq fun K22 hK22 => ?_
          refine Cd.plain [(0, false), (1, false)] rfl rfl ?_
          refine Jp.y 13 rfl (want_all rfl) rfl rfl Kp.true (Y.eql rfl rfl rfl) ?_
          refine Jp.y 12 rfl (want_all rfl) rfl rfl Kp.true (Y.assign rfl rfl) ?_
          refine Jp.done hK22 ?_
          refine Cd.cond rfl (fun g12 => ?_) (fun g12 => ?_)
          · skip
            try simp only [decide_eq_false_iff_not, decide_eq_true_eq, Int.not_lt, Int.not_le, Bool.not_eq_false, Bool.not_eq_true, Bool.not_true, Bool.not_false, Bool.not_eq_true', Bool.not_eq_false', beq_eq_false_iff_ne, ne_eq, beq_iff_eq, bne_iff_ne, bne_eq_false_iff_eq, Classical.not_not] at g12
            refine Cd.skip hK21 ?_
            refine Cd.cond rfl (fun g12 => ?_) (fun g12 => ?_)
            · skip
              try simp only [decide_eq_false_iff_not, decide_eq_true_eq, Int.not_lt, Int.not_le, Bool.not_eq_false, Bool.not_eq_true, Bool.not_true, Bool.not_false, Bool.not_eq_true', Bool.not_eq_false', beq_eq_false_iff_ne, ne_eq, beq_iff_eq, bne_iff_ne, bne_eq_false_iff_eq, Classical.not_not] at g12
              refine Cd.seq fun K23 hK23 => ?_
              refine Cd.plain [(0, false), (1, false)] rfl rfl ?_
              refine Jp.y 2 rfl (want_all rfl) rfl rfl Kp.true (Y.assign rfl rfl) ?_
              refine Jp.y 3 rfl (want_all rfl) rfl rfl Kp.true (Y.assign rfl rfl) ?_
              refine Jp.done hK23 ?_
              refine Cd.ret [] rfl (res2 rfl rfl rfl) trivial ⟨rfl, by first | (exfalso; omega) | (unfold sizeP; repeat first | rfl | rw [if_pos (by omega)] | rw [if_neg (by omega)]), rfl⟩
            · skip
              try simp only [decide_eq_false_iff_not, decide_eq_true_eq, Int.not_lt, Int.not_le, Bool.not_eq_false, Bool.not_eq_true, Bool.not_true, Bool.not_false, Bool.not_eq_true', Bool.not_eq_false', beq_eq_false_iff_ne, ne_eq, beq_iff_eq, bne_iff_ne, bne_eq_false_iff_eq, Classical.not_not] at g12
              refine Cd.over rfl hK5 ?_
              refine Cd.seq fun K24 hK24 => ?_
              refine Cd.plain [(0, false), (1, false)] rfl rfl ?_
              refine Jp.y 2 rfl (want_all rfl) rfl rfl Kp.true (Y.assign rfl rfl) ?_
              refine Jp.y 3 rfl (want_all rfl) rfl rfl Kp.true (Y.assign rfl rfl) ?_
              refine Jp.done hK24 ?_
              refine Cd.ret [] rfl (res2 rfl rfl rfl) trivial ⟨rfl, by first | (exfalso; omega) | (unfold sizeP; repeat first | rfl | rw [if_pos (by omega)] | rw [if_neg (by omega)]), rfl⟩
          · skip
            try simp only [decide_eq_false_iff_not, decide_eq_true_eq, Int.not_lt, Int.not_le, Bool.not_eq_false, Bool.not_eq_true, Bool.not_true, Bool.not_false, Bool.not_eq_true', Bool.not_eq_false', beq_eq_false_iff_ne, ne_eq, beq_iff_eq, bne_iff_ne, bne_eq_false_iff_eq, Classical.not_not] at g12
            refine Cd.plain [(0, false), (1, false)] rfl rfl ?_
            refine Jp.y 14 rfl (want_all rfl) rfl rfl Kp.true (Y.eql rfl rfl rfl) ?_
            refine Jp.y 12 rfl (want_all rfl) rfl rfl Kp.true (Y.assign rfl rfl) ?_
            refine Jp.done hK21 ?_
            refine Cd.cond rfl (fun g12 => ?_) (fun g12 => ?_)
            · skip
              try simp only [decide_eq_false_iff_not, decide_eq_true_eq, Int.not_lt, Int.not_le, Bool.not_eq_false, Bool.not_eq_true, Bool.not_true, Bool.not_false, Bool.not_eq_true', Bool.not_eq_false', beq_eq_false_iff_ne, ne_eq, beq_iff_eq, bne_iff_ne, bne_eq_false_iff_eq, Classical.not_not] at g12
              refine Cd.seq fun K25 hK25 => ?_
              refine Cd.plain [(0, false), (1, false)] rfl rfl ?_
              refine Jp.y 2 rfl (want_all rfl) rfl rfl Kp.true (Y.assign rfl rfl) ?_
              refine Jp.y 3 rfl (want_all rfl) rfl rfl Kp.true (Y.assign rfl rfl) ?_
              refine Jp.done hK25 ?_
              refine Cd.ret [] rfl (res2 rfl rfl rfl) trivial ⟨rfl, by first | (exfalso; omega) | (unfold sizeP; repeat first | rfl | rw [if_pos (by omega)] | rw [if_neg (by omega)]), rfl⟩
            · skip
              try simp only [decide_eq_false_iff_not, decide_eq_true_eq, Int.not_lt, Int.not_le, Bool.not_eq_false, Bool.not_eq_true, Bool.not_true, Bool.not_false, Bool.not_eq_true', Bool.not_eq_false', beq_eq_false_iff_ne, ne_eq, beq_iff_eq, bne_iff_ne, bne_eq_false_iff_eq, Classical.not_not] at g12
              refine Cd.over rfl hK5 ?_
              refine Cd.seq fun K26 hK26 => ?_
              refine Cd.plain [(0, false), (1, false)] rfl rfl ?_
              refine Jp.y 2 rfl (want_all rfl) rfl rfl Kp.true (Y.assign rfl rfl) ?_
              refine Jp.y 3 rfl (want_all rfl) rfl rfl Kp.true (Y.assign rfl rfl) ?_
              refine Jp.done hK26 ?_
              refine Cd.ret [] rfl (res2 rfl rfl rfl) trivial ⟨rfl, by first | (exfalso; omega) | (unfold sizeP; repeat first | rfl | rw [if_pos (by omega)] | rw [if_neg (by omega)]), rfl⟩
def loadsP (op : Nat) : Bool := decide (11 ≤ op ∧ op ≤ 15)
def storesP (op : Nat) : Bool := decide (16 ≤ op ∧ op ≤ 18)
def writesP (op : Nat) : Bool := decide (1 ≤ op ∧ op ≤ 4 ∨ 11 ≤ op ∧ op ≤ 15 ∨ 19 ≤ op ∧ op ≤ 45)
theorem loads_spec (op : Nat) : Spec Try.prog 91 #[.int .i64 op] (fun _ => True) [] (fun ρ ρ' v L => ρ' = ρ ∧ v = .bool (loadsP op) ∧ L = []) := by
  refine Spec.of 9 Try.func91 rfl Try.ntmps91 [(0, _)] rfl rfl ?_
  intro cx ρ hr' h0
  refine Cd.seq fun K27 hK27 => ?_
  refine Cd.plain [(0, false)] rfl rfl ?_
  refine Jp.y 2 rfl (want_all rfl) rfl rfl Kp.true (Y.assign rfl rfl) ?_
  refine Jp.done hK27 ?_
  refine Cd.seq fun K28 hK28 => ?_
  refine Cd.plain [(0, false), (1, false), (2, false), (3, false), (4, false), (5, false), (6, false)] rfl rfl ?_
  refine Jp.y 3 rfl (want_all rfl) rfl rfl Kp.true (Y.move rfl rfl) ?_
  refine Jp.y 4 rfl (want_all rfl) rfl rfl Kp.true (Y.geq rfl rfl rfl) ?_
  refine Jp.y 5 rfl (want_all rfl) rfl rfl Kp.true (Y.move rfl rfl) ?_
  refine Jp.split 5 rfl (fun g5 => ?_) (fun g5 => ?_)
  · skip
    try simp only [decide_eq_false_iff_not, decide_eq_true_eq, Int.not_lt, Int.not_le, Bool.not_eq_false, Bool.not_eq_true, Bool.not_true, Bool.not_false, Bool.not_eq_true', Bool.not_eq_false', beq_eq_false_iff_ne, ne_eq, beq_iff_eq, bne_iff_ne, bne_eq_false_iff_eq, Classical.not_not] at g5
    refine Jp.y 6 rfl (want_as rfl rfl rfl rfl) rfl rfl Kp.true (Y.move rfl rfl) ?_
    refine Jp.y 7 rfl (want_as rfl rfl rfl rfl) rfl rfl Kp.true (Y.leq rfl rfl rfl) ?_
    refine Jp.y 8 rfl (want_all rfl) rfl rfl Kp.true (Y.pickT rfl rfl rfl) ?_
    refine Jp.y 2 rfl (want_all rfl) rfl rfl Kp.true (Y.assign rfl rfl) ?_
    refine Jp.done hK28 ?_
    refine Cd.ret [] rfl (res1 rfl rfl) trivial ⟨rfl, congrArg Value.bool (by rw [Bool.eq_iff_iff]; simp only [loadsP, decide_eq_true_eq, Bool.false_eq_true, true_iff, false_iff]; omega), rfl⟩
  · skip
    try simp only [decide_eq_false_iff_not, decide_eq_true_eq, Int.not_lt, Int.not_le, Bool.not_eq_false, Bool.not_eq_true, Bool.not_true, Bool.not_false, Bool.not_eq_true', Bool.not_eq_false', beq_eq_false_iff_ne, ne_eq, beq_iff_eq, bne_iff_ne, bne_eq_false_iff_eq, Classical.not_not] at g5
    refine Jp.skip 6 rfl (want_as rfl rfl rfl rfl) rfl rfl Kp.true ?_
    refine Jp.skip 7 rfl (want_as rfl rfl rfl rfl) rfl rfl Kp.true ?_
    refine Jp.y 8 rfl (want_all rfl) rfl rfl Kp.true (Y.pickF rfl rfl rfl) ?_
    refine Jp.y 2 rfl (want_all rfl) rfl rfl Kp.true (Y.assign rfl rfl) ?_
    refine Jp.done hK28 ?_
    refine Cd.ret [] rfl (res1 rfl rfl) trivial ⟨rfl, congrArg Value.bool (by rw [Bool.eq_iff_iff]; simp only [loadsP, decide_eq_true_eq, Bool.false_eq_true, true_iff, false_iff]; omega), rfl⟩
theorem stores_spec (op : Nat) : Spec Try.prog 62 #[.int .i64 op] (fun _ => True) [] (fun ρ ρ' v L => ρ' = ρ ∧ v = .bool (storesP op) ∧ L = []) := by
  refine Spec.of 9 Try.func62 rfl Try.ntmps62 [(0, _)] rfl rfl ?_
  intro cx ρ hr' h0
  refine Cd.seq fun K29 hK29 => ?_
  refine Cd.plain [(0, false)] rfl rfl ?_
  refine Jp.y 2 rfl (want_all rfl) rfl rfl Kp.true (Y.assign rfl rfl) ?_
  refine Jp.done hK29 ?_
  refine Cd.seq fun K30 hK30 => ?_
  refine Cd.plain [(0, false), (1, false), (2, false), (3, false), (4, false), (5, false), (6, false)] rfl rfl ?_
  refine Jp.y 3 rfl (want_all rfl) rfl rfl Kp.true (Y.move rfl rfl) ?_
  refine Jp.y 4 rfl (want_all rfl) rfl rfl Kp.true (Y.geq rfl rfl rfl) ?_
  refine Jp.y 5 rfl (want_all rfl) rfl rfl Kp.true (Y.move rfl rfl) ?_
  refine Jp.split 5 rfl (fun g5 => ?_) (fun g5 => ?_)
  · skip
    try simp only [decide_eq_false_iff_not, decide_eq_true_eq, Int.not_lt, Int.not_le, Bool.not_eq_false, Bool.not_eq_true, Bool.not_true, Bool.not_false, Bool.not_eq_true', Bool.not_eq_false', beq_eq_false_iff_ne, ne_eq, beq_iff_eq, bne_iff_ne, bne_eq_false_iff_eq, Classical.not_not] at g5
    refine Jp.y 6 rfl (want_as rfl rfl rfl rfl) rfl rfl Kp.true (Y.move rfl rfl) ?_
    refine Jp.y 7 rfl (want_as rfl rfl rfl rfl) rfl rfl Kp.true (Y.leq rfl rfl rfl) ?_
    refine Jp.y 8 rfl (want_all rfl) rfl rfl Kp.true (Y.pickT rfl rfl rfl) ?_
    refine Jp.y 2 rfl (want_all rfl) rfl rfl Kp.true (Y.assign rfl rfl) ?_
    refine Jp.done hK30 ?_
    refine Cd.ret [] rfl (res1 rfl rfl) trivial ⟨rfl, congrArg Value.bool (by rw [Bool.eq_iff_iff]; simp only [storesP, decide_eq_true_eq, Bool.false_eq_true, true_iff, false_iff]; omega), rfl⟩
  · skip
    try simp only [decide_eq_false_iff_not, decide_eq_true_eq, Int.not_lt, Int.not_le, Bool.not_eq_false, Bool.not_eq_true, Bool.not_true, Bool.not_false, Bool.not_eq_true', Bool.not_eq_false', beq_eq_false_iff_ne, ne_eq, beq_iff_eq, bne_iff_ne, bne_eq_false_iff_eq, Classical.not_not] at g5
    refine Jp.skip 6 rfl (want_as rfl rfl rfl rfl) rfl rfl Kp.true ?_
    refine Jp.skip 7 rfl (want_as rfl rfl rfl rfl) rfl rfl Kp.true ?_
    refine Jp.y 8 rfl (want_all rfl) rfl rfl Kp.true (Y.pickF rfl rfl rfl) ?_
    refine Jp.y 2 rfl (want_all rfl) rfl rfl Kp.true (Y.assign rfl rfl) ?_
    refine Jp.done hK30 ?_
    refine Cd.ret [] rfl (res1 rfl rfl) trivial ⟨rfl, congrArg Value.bool (by rw [Bool.eq_iff_iff]; simp only [storesP, decide_eq_true_eq, Bool.false_eq_true, true_iff, false_iff]; omega), rfl⟩
theorem writes_spec (op : Nat) : Spec Try.prog 67 #[.int .i64 op] (fun _ => True) [] (fun ρ ρ' v L => ρ' = ρ ∧ v = .bool (writesP op) ∧ L = []) := by
  refine Spec.of 21 Try.func67 rfl Try.ntmps67 [(0, _)] rfl rfl ?_
  intro cx ρ hr' h0
  refine Cd.seq fun K31 hK31 => ?_
  refine Cd.plain [(0, false)] rfl rfl ?_
  refine Jp.y 2 rfl (want_all rfl) rfl rfl Kp.true (Y.assign rfl rfl) ?_
  refine Jp.done hK31 ?_
  refine Cd.seq fun K32 hK32 => ?_
  refine Cd.plain [(0, false), (1, false), (2, false), (3, false), (4, false), (5, false), (6, false), (7, false), (8, false), (9, false), (10, false), (11, false), (12, false), (13, false), (14, false), (15, false), (16, false), (17, false), (18, false)] rfl rfl ?_
  refine Jp.y 3 rfl (want_all rfl) rfl rfl Kp.true (Y.move rfl rfl) ?_
  refine Jp.y 4 rfl (want_all rfl) rfl rfl Kp.true (Y.geq rfl rfl rfl) ?_
  refine Jp.y 5 rfl (want_all rfl) rfl rfl Kp.true (Y.move rfl rfl) ?_
  refine Jp.split 5 rfl (fun g5 => ?_) (fun g5 => ?_)
  · skip
    try simp only [decide_eq_false_iff_not, decide_eq_true_eq, Int.not_lt, Int.not_le, Bool.not_eq_false, Bool.not_eq_true, Bool.not_true, Bool.not_false, Bool.not_eq_true', Bool.not_eq_false', beq_eq_false_iff_ne, ne_eq, beq_iff_eq, bne_iff_ne, bne_eq_false_iff_eq, Classical.not_not] at g5
    refine Jp.y 6 rfl (want_as rfl rfl rfl rfl) rfl rfl Kp.true (Y.move rfl rfl) ?_
    refine Jp.y 7 rfl (want_as rfl rfl rfl rfl) rfl rfl Kp.true (Y.leq rfl rfl rfl) ?_
    refine Jp.y 8 rfl (want_all rfl) rfl rfl Kp.true (Y.pickT rfl rfl rfl) ?_
    refine Jp.y 9 rfl (want_all rfl) rfl rfl Kp.true (Y.move rfl rfl) ?_
    refine Jp.split 9 rfl (fun g9 => ?_) (fun g9 => ?_)
    · skip
      try simp only [decide_eq_false_iff_not, decide_eq_true_eq, Int.not_lt, Int.not_le, Bool.not_eq_false, Bool.not_eq_true, Bool.not_true, Bool.not_false, Bool.not_eq_true', Bool.not_eq_false', beq_eq_false_iff_ne, ne_eq, beq_iff_eq, bne_iff_ne, bne_eq_false_iff_eq, Classical.not_not] at g9
      refine Jp.skip 10 rfl (want_as rfl rfl rfl rfl) rfl rfl Kp.true ?_
      refine Jp.skip 11 rfl (want_as rfl rfl rfl rfl) rfl rfl Kp.true ?_
      refine Jp.y 12 rfl (want_all rfl) rfl rfl Kp.true (Y.pickT rfl rfl rfl) ?_
      refine Jp.y 13 rfl (want_all rfl) rfl rfl Kp.true (Y.move rfl rfl) ?_
      refine Jp.skip 14 rfl (want_as rfl rfl rfl rfl) rfl rfl Kp.true ?_
      refine Jp.skip 15 rfl (want_as rfl rfl rfl rfl) rfl rfl Kp.true ?_
      refine Jp.skip 16 rfl (want_as rfl rfl rfl rfl) rfl rfl Kp.true ?_
      refine Jp.skip 17 rfl (want_un rfl rfl rfl) rfl rfl Kp.true ?_
      refine Jp.skip 18 rfl (want_un rfl rfl rfl) rfl rfl Kp.true ?_
      refine Jp.skip 19 rfl (want_as rfl rfl rfl rfl) rfl rfl Kp.true ?_
      refine Jp.y 20 rfl (want_all rfl) rfl rfl Kp.true (Y.pickT rfl rfl rfl) ?_
      refine Jp.y 2 rfl (want_all rfl) rfl rfl Kp.true (Y.assign rfl rfl) ?_
      refine Jp.done hK32 ?_
      refine Cd.ret [] rfl (res1 rfl rfl) trivial ⟨rfl, congrArg Value.bool (by rw [Bool.eq_iff_iff]; (try simp only [loadsP, decide_eq_true_eq, decide_eq_false_iff_not] at *); simp only [writesP, decide_eq_true_eq, Bool.false_eq_true, true_iff, false_iff]; omega), rfl⟩
    · skip
      try simp only [decide_eq_false_iff_not, decide_eq_true_eq, Int.not_lt, Int.not_le, Bool.not_eq_false, Bool.not_eq_true, Bool.not_true, Bool.not_false, Bool.not_eq_true', Bool.not_eq_false', beq_eq_false_iff_ne, ne_eq, beq_iff_eq, bne_iff_ne, bne_eq_false_iff_eq, Classical.not_not] at g9
      refine Jp.y 10 rfl (want_as rfl rfl rfl rfl) rfl rfl Kp.true (Y.move rfl rfl) ?_
      refine Jp.call [] [] (loads_spec op) 11 rfl (want_as rfl rfl rfl rfl) rfl rfl (Runs.fn rfl Try.call91 rfl) (by decide) (by decide) rfl trivial ?_
      rintro v101 ρ101 L101 ⟨rfl, rfl, rfl⟩
      refine ⟨rfl, fun hle101 => ⟨Kp.true, ?_⟩⟩
      refine Jp.y 12 rfl (want_all rfl) rfl rfl Kp.true (Y.pickF rfl rfl rfl) ?_
      refine Jp.y 13 rfl (want_all rfl) rfl rfl Kp.true (Y.move rfl rfl) ?_
      refine Jp.split 13 rfl (fun g13 => ?_) (fun g13 => ?_)
      · skip
        try simp only [decide_eq_false_iff_not, decide_eq_true_eq, Int.not_lt, Int.not_le, Bool.not_eq_false, Bool.not_eq_true, Bool.not_true, Bool.not_false, Bool.not_eq_true', Bool.not_eq_false', beq_eq_false_iff_ne, ne_eq, beq_iff_eq, bne_iff_ne, bne_eq_false_iff_eq, Classical.not_not] at g13
        refine Jp.skip 14 rfl (want_as rfl rfl rfl rfl) rfl rfl Kp.true ?_
        refine Jp.skip 15 rfl (want_as rfl rfl rfl rfl) rfl rfl Kp.true ?_
        refine Jp.skip 16 rfl (want_as rfl rfl rfl rfl) rfl rfl Kp.true ?_
        refine Jp.skip 17 rfl (want_un rfl rfl rfl) rfl rfl Kp.true ?_
        refine Jp.skip 18 rfl (want_un rfl rfl rfl) rfl rfl Kp.true ?_
        refine Jp.skip 19 rfl (want_as rfl rfl rfl rfl) rfl rfl Kp.true ?_
        refine Jp.y 20 rfl (want_all rfl) rfl rfl Kp.true (Y.pickT rfl rfl rfl) ?_
        refine Jp.y 2 rfl (want_all rfl) rfl rfl Kp.true (Y.assign rfl rfl) ?_
        refine Jp.done hK32 ?_
        refine Cd.ret [] rfl (res1 rfl rfl) trivial ⟨rfl, congrArg Value.bool (by rw [Bool.eq_iff_iff]; (try simp only [loadsP, decide_eq_true_eq, decide_eq_false_iff_not] at *); simp only [writesP, decide_eq_true_eq, Bool.false_eq_true, true_iff, false_iff]; omega), rfl⟩
      · skip
        try simp only [decide_eq_false_iff_not, decide_eq_true_eq, Int.not_lt, Int.not_le, Bool.not_eq_false, Bool.not_eq_true, Bool.not_true, Bool.not_false, Bool.not_eq_true', Bool.not_eq_false', beq_eq_false_iff_ne, ne_eq, beq_iff_eq, bne_iff_ne, bne_eq_false_iff_eq, Classical.not_not] at g13
        refine Jp.y 14 rfl (want_as rfl rfl rfl rfl) rfl rfl Kp.true (Y.move rfl rfl) ?_
        refine Jp.y 15 rfl (want_as rfl rfl rfl rfl) rfl rfl Kp.true (Y.geq rfl rfl rfl) ?_
        refine Jp.y 16 rfl (want_as rfl rfl rfl rfl) rfl rfl Kp.true (Y.move rfl rfl) ?_
        refine Jp.split 16 rfl (fun g16 => ?_) (fun g16 => ?_)
        · skip
          try simp only [decide_eq_false_iff_not, decide_eq_true_eq, Int.not_lt, Int.not_le, Bool.not_eq_false, Bool.not_eq_true, Bool.not_true, Bool.not_false, Bool.not_eq_true', Bool.not_eq_false', beq_eq_false_iff_ne, ne_eq, beq_iff_eq, bne_iff_ne, bne_eq_false_iff_eq, Classical.not_not] at g16
          refine Jp.y 17 rfl (want_as rfl rfl rfl rfl) rfl rfl Kp.true (Y.move rfl rfl) ?_
          refine Jp.y 18 rfl (want_as rfl rfl rfl rfl) rfl rfl Kp.true (Y.leq rfl rfl rfl) ?_
          refine Jp.y 19 rfl (want_as rfl rfl rfl rfl) rfl rfl Kp.true (Y.pickT rfl rfl rfl) ?_
          refine Jp.y 20 rfl (want_all rfl) rfl rfl Kp.true (Y.pickF rfl rfl rfl) ?_
          refine Jp.y 2 rfl (want_all rfl) rfl rfl Kp.true (Y.assign rfl rfl) ?_
          refine Jp.done hK32 ?_
          refine Cd.ret [] rfl (res1 rfl rfl) trivial ⟨rfl, congrArg Value.bool (by rw [Bool.eq_iff_iff]; (try simp only [loadsP, decide_eq_true_eq, decide_eq_false_iff_not] at *); simp only [writesP, decide_eq_true_eq, Bool.false_eq_true, true_iff, false_iff]; omega), rfl⟩
        · skip
          try simp only [decide_eq_false_iff_not, decide_eq_true_eq, Int.not_lt, Int.not_le, Bool.not_eq_false, Bool.not_eq_true, Bool.not_true, Bool.not_false, Bool.not_eq_true', Bool.not_eq_false', beq_eq_false_iff_ne, ne_eq, beq_iff_eq, bne_iff_ne, bne_eq_false_iff_eq, Classical.not_not] at g16
          refine Jp.skip 17 rfl (want_as rfl rfl rfl rfl) rfl rfl Kp.true ?_
          refine Jp.skip 18 rfl (want_as rfl rfl rfl rfl) rfl rfl Kp.true ?_
          refine Jp.y 19 rfl (want_as rfl rfl rfl rfl) rfl rfl Kp.true (Y.pickF rfl rfl rfl) ?_
          refine Jp.y 20 rfl (want_all rfl) rfl rfl Kp.true (Y.pickF rfl rfl rfl) ?_
          refine Jp.y 2 rfl (want_all rfl) rfl rfl Kp.true (Y.assign rfl rfl) ?_
          refine Jp.done hK32 ?_
          refine Cd.ret [] rfl (res1 rfl rfl) trivial ⟨rfl, congrArg Value.bool (by rw [Bool.eq_iff_iff]; (try simp only [loadsP, decide_eq_true_eq, decide_eq_false_iff_not] at *); simp only [writesP, decide_eq_true_eq, Bool.false_eq_true, true_iff, false_iff]; omega), rfl⟩
  · skip
    try simp only [decide_eq_false_iff_not, decide_eq_true_eq, Int.not_lt, Int.not_le, Bool.not_eq_false, Bool.not_eq_true, Bool.not_true, Bool.not_false, Bool.not_eq_true', Bool.not_eq_false', beq_eq_false_iff_ne, ne_eq, beq_iff_eq, bne_iff_ne, bne_eq_false_iff_eq, Classical.not_not] at g5
    refine Jp.skip 6 rfl (want_as rfl rfl rfl rfl) rfl rfl Kp.true ?_
    refine Jp.skip 7 rfl (want_as rfl rfl rfl rfl) rfl rfl Kp.true ?_
    refine Jp.y 8 rfl (want_all rfl) rfl rfl Kp.true (Y.pickF rfl rfl rfl) ?_
    refine Jp.y 9 rfl (want_all rfl) rfl rfl Kp.true (Y.move rfl rfl) ?_
    refine Jp.y 10 rfl (want_as rfl rfl rfl rfl) rfl rfl Kp.true (Y.move rfl rfl) ?_
    refine Jp.call [] [] (loads_spec op) 11 rfl (want_as rfl rfl rfl rfl) rfl rfl (Runs.fn rfl Try.call91 rfl) (by decide) (by decide) rfl trivial ?_
    rintro v102 ρ102 L102 ⟨rfl, rfl, rfl⟩
    refine ⟨rfl, fun hle102 => ⟨Kp.true, ?_⟩⟩
    refine Jp.y 12 rfl (want_all rfl) rfl rfl Kp.true (Y.pickF rfl rfl rfl) ?_
    refine Jp.y 13 rfl (want_all rfl) rfl rfl Kp.true (Y.move rfl rfl) ?_
    refine Jp.split 13 rfl (fun g13 => ?_) (fun g13 => ?_)
    · skip
      try simp only [decide_eq_false_iff_not, decide_eq_true_eq, Int.not_lt, Int.not_le, Bool.not_eq_false, Bool.not_eq_true, Bool.not_true, Bool.not_false, Bool.not_eq_true', Bool.not_eq_false', beq_eq_false_iff_ne, ne_eq, beq_iff_eq, bne_iff_ne, bne_eq_false_iff_eq, Classical.not_not] at g13
      refine Jp.skip 14 rfl (want_as rfl rfl rfl rfl) rfl rfl Kp.true ?_
      refine Jp.skip 15 rfl (want_as rfl rfl rfl rfl) rfl rfl Kp.true ?_
      refine Jp.skip 16 rfl (want_as rfl rfl rfl rfl) rfl rfl Kp.true ?_
      refine Jp.skip 17 rfl (want_un rfl rfl rfl) rfl rfl Kp.true ?_
      refine Jp.skip 18 rfl (want_un rfl rfl rfl) rfl rfl Kp.true ?_
      refine Jp.skip 19 rfl (want_as rfl rfl rfl rfl) rfl rfl Kp.true ?_
      refine Jp.y 20 rfl (want_all rfl) rfl rfl Kp.true (Y.pickT rfl rfl rfl) ?_
      refine Jp.y 2 rfl (want_all rfl) rfl rfl Kp.true (Y.assign rfl rfl) ?_
      refine Jp.done hK32 ?_
      refine Cd.ret [] rfl (res1 rfl rfl) trivial ⟨rfl, congrArg Value.bool (by rw [Bool.eq_iff_iff]; (try simp only [loadsP, decide_eq_true_eq, decide_eq_false_iff_not] at *); simp only [writesP, decide_eq_true_eq, Bool.false_eq_true, true_iff, false_iff]; omega), rfl⟩
    · skip
      try simp only [decide_eq_false_iff_not, decide_eq_true_eq, Int.not_lt, Int.not_le, Bool.not_eq_false, Bool.not_eq_true, Bool.not_true, Bool.not_false, Bool.not_eq_true', Bool.not_eq_false', beq_eq_false_iff_ne, ne_eq, beq_iff_eq, bne_iff_ne, bne_eq_false_iff_eq, Classical.not_not] at g13
      refine Jp.y 14 rfl (want_as rfl rfl rfl rfl) rfl rfl Kp.true (Y.move rfl rfl) ?_
      refine Jp.y 15 rfl (want_as rfl rfl rfl rfl) rfl rfl Kp.true (Y.geq rfl rfl rfl) ?_
      refine Jp.y 16 rfl (want_as rfl rfl rfl rfl) rfl rfl Kp.true (Y.move rfl rfl) ?_
      refine Jp.split 16 rfl (fun g16 => ?_) (fun g16 => ?_)
      · skip
        try simp only [decide_eq_false_iff_not, decide_eq_true_eq, Int.not_lt, Int.not_le, Bool.not_eq_false, Bool.not_eq_true, Bool.not_true, Bool.not_false, Bool.not_eq_true', Bool.not_eq_false', beq_eq_false_iff_ne, ne_eq, beq_iff_eq, bne_iff_ne, bne_eq_false_iff_eq, Classical.not_not] at g16
        refine Jp.y 17 rfl (want_as rfl rfl rfl rfl) rfl rfl Kp.true (Y.move rfl rfl) ?_
        refine Jp.y 18 rfl (want_as rfl rfl rfl rfl) rfl rfl Kp.true (Y.leq rfl rfl rfl) ?_
        refine Jp.y 19 rfl (want_as rfl rfl rfl rfl) rfl rfl Kp.true (Y.pickT rfl rfl rfl) ?_
        refine Jp.y 20 rfl (want_all rfl) rfl rfl Kp.true (Y.pickF rfl rfl rfl) ?_
        refine Jp.y 2 rfl (want_all rfl) rfl rfl Kp.true (Y.assign rfl rfl) ?_
        refine Jp.done hK32 ?_
        refine Cd.ret [] rfl (res1 rfl rfl) trivial ⟨rfl, congrArg Value.bool (by rw [Bool.eq_iff_iff]; (try simp only [loadsP, decide_eq_true_eq, decide_eq_false_iff_not] at *); simp only [writesP, decide_eq_true_eq, Bool.false_eq_true, true_iff, false_iff]; omega), rfl⟩
      · skip
        try simp only [decide_eq_false_iff_not, decide_eq_true_eq, Int.not_lt, Int.not_le, Bool.not_eq_false, Bool.not_eq_true, Bool.not_true, Bool.not_false, Bool.not_eq_true', Bool.not_eq_false', beq_eq_false_iff_ne, ne_eq, beq_iff_eq, bne_iff_ne, bne_eq_false_iff_eq, Classical.not_not] at g16
        refine Jp.skip 17 rfl (want_as rfl rfl rfl rfl) rfl rfl Kp.true ?_
        refine Jp.skip 18 rfl (want_as rfl rfl rfl rfl) rfl rfl Kp.true ?_
        refine Jp.y 19 rfl (want_as rfl rfl rfl rfl) rfl rfl Kp.true (Y.pickF rfl rfl rfl) ?_
        refine Jp.y 20 rfl (want_all rfl) rfl rfl Kp.true (Y.pickF rfl rfl rfl) ?_
        refine Jp.y 2 rfl (want_all rfl) rfl rfl Kp.true (Y.assign rfl rfl) ?_
        refine Jp.done hK32 ?_
        refine Cd.ret [] rfl (res1 rfl rfl) trivial ⟨rfl, congrArg Value.bool (by rw [Bool.eq_iff_iff]; (try simp only [loadsP, decide_eq_true_eq, decide_eq_false_iff_not] at *); simp only [writesP, decide_eq_true_eq, Bool.false_eq_true, true_iff, false_iff]; omega), rfl⟩
def brK (op : Nat) : Nat := [0, 1, 4, 5, 6, 7].getD (op - 5) 0
theorem brK_ok {op : Nat} (h : 5 ≤ op ∧ op ≤ 10) : brK op = 0 ∨ brK op = 1 ∨ 4 ≤ brK op ∧ brK op ≤ 7 := by
  rcases (show op = 5 ∨ op = 6 ∨ op = 7 ∨ op = 8 ∨ op = 9 ∨ op = 10 by omega) with rfl | rfl | rfl | rfl | rfl | rfl <;> decide
theorem brtest_spec (op : Nat) (h : 5 ≤ op ∧ op ≤ 10) : Spec Try.prog 90 #[.int .i64 op] (fun _ => True) [] (fun ρ ρ' v L => ρ' = ρ ∧ v = .int .i64 (brK op : Int) ∧ L = []) := by
  refine Spec.of 7 Try.func90 rfl Try.ntmps90 [(0, _)] rfl rfl ?_
  intro cx ρ hr' h0
  have hidx : (#[Value.int .i64 0, Value.int .i64 1, Value.int .i64 4, Value.int .i64 5, Value.int .i64 6, Value.int .i64 7] : Array Value)[((op : Int) - 5).toNat * 1]? = some (.int .i64 (brK op : Int)) := by
    rcases (show op = 5 ∨ op = 6 ∨ op = 7 ∨ op = 8 ∨ op = 9 ∨ op = 10 by omega) with rfl | rfl | rfl | rfl | rfl | rfl <;> rfl
  refine Cd.seq fun K33 hK33 => ?_
  refine Cd.plain [(0, false)] rfl rfl ?_
  refine Jp.y 2 rfl (want_all rfl) rfl rfl Kp.true (Y.assign rfl rfl) ?_
  refine Jp.done hK33 ?_
  refine Cd.seq fun K34 hK34 => ?_
  refine Cd.plain [(0, false), (1, false), (2, false), (3, false), (4, false)] rfl rfl ?_
  refine Jp.y 3 rfl (want_all rfl) rfl rfl Kp.true (Y.array [(0, _), (1, _), (2, _), (3, _), (4, _), (5, _)] [_, _, _, _, _, _] rfl rfl Try.underlying192 Try.sizeOf3 Try.zeroValue192 rfl) ?_
  refine Jp.y 4 rfl (want_all rfl) rfl rfl Kp.true (Y.move rfl rfl) ?_
  refine Jp.y 5 rfl (want_all rfl) rfl rfl Kp.true (Y.sub_ rfl rfl rfl (by first | exact wrap_i64 (by omega) (by omega) | rfl)) ?_
  refine Jp.y 6 rfl (want_all rfl) rfl rfl Kp.true (Y.indexV (v := .int .i64 (brK op : Int)) rfl Try.underlying192 Try.sizeOf3 Try.isAgg3 rfl rfl (by omega) (by omega) hidx) ?_
  refine Jp.y 2 rfl (want_all rfl) rfl rfl Kp.true (Y.assign rfl rfl) ?_
  refine Jp.done hK34 ?_
  refine Cd.ret [] rfl (res1 rfl rfl) trivial ⟨rfl, rfl, rfl⟩
def goesP (i : InsP) (s : StP) : Nat :=
  if i.op = 3 then u32 ((s.pc : Int) + (u32 i.imm : Int)) else if i.op = 4 then addrP i s - addrP i s % 2 else
  if 5 ≤ i.op ∧ i.op ≤ 10 ∧ testP (brK i.op) (regP s i.r1) (regP s i.r2) = true then u32 ((s.pc : Int) + (u32 i.imm : Int)) else u32 ((s.pc : Int) + 4)
theorem bits_even {v : Nat} (hv : v < 4294967296) : bitsB .andNot .u32 v 1 = ((v - v % 2 : Nat) : Int) := by
  show IntKind.u32.wrap ((BitVec.ofInt 32 (v : Int) &&& ~~~ BitVec.ofInt 32 1).toNat : Int) = _
  have e : (BitVec.ofInt 32 (v : Int) &&& ~~~ BitVec.ofInt 32 1).toNat = v - v % 2 := by
    rw [BitVec.toNat_and, ofInt_nat 32 v hv]
    rw [show (~~~ BitVec.ofInt 32 1).toNat = 4294967294 by decide]
    have h : v - v % 2 = v / 2 ^ 1 * 2 ^ 1 := by omega
    rw [h]
    apply Nat.eq_of_testBit_eq
    intro i
    rw [Nat.testBit_and, Nat.testBit_mul_two_pow, Nat.testBit_div_two_pow, show (4294967294 : Nat) = 2147483647 * 2 ^ 1 from rfl, Nat.testBit_mul_two_pow, show (2147483647 : Nat) = 2 ^ 31 - 1 from rfl, Nat.testBit_two_pow_sub_one]
    by_cases h8 : 1 ≤ i
    · rw [show i - 1 + 1 = i by omega]
      by_cases h32 : i < 32
      · simp [h8, show i - 1 < 31 by omega]
      · have : v.testBit i = false := Nat.testBit_lt_two_pow (Nat.lt_of_lt_of_le hv (by
          have := Nat.pow_le_pow_right (n := 2) (by omega) (show 32 ≤ i by omega)
          omega))
        simp [this]
    · simp [h8]
  rw [e, wrap_u, u32_id (by omega)]
theorem addrP_lt (i : InsP) (s : StP) : addrP i s < 4294967296 := u32_lt _
theorem goes_spec (i : InsP) (s : StP) (hs : StOk s) (hi : InsOk i) : Spec Try.prog 61 #[.agg i.cells.toArray, .agg s.cells.toArray] (fun _ => True) [] (fun ρ ρ' v L => ρ' = ρ ∧ v = .int .u32 (goesP i s : Int) ∧ L = []) := by
  have hA := address_spec i s hs hi
  have hal := addrP_lt i s
  obtain ⟨ad, had⟩ : ∃ ad, addrP i s = ad := ⟨_, rfl⟩
  obtain ⟨g, hg⟩ : ∃ g, goesP i s = g := ⟨_, rfl⟩
  rw [hg]
  unfold goesP at hg
  rw [had] at hA hg hal
  obtain ⟨op, rd, r1, r2, imm⟩ := i
  dsimp only at hg
  have hb := bits_even hal
  have hR1 := reg_spec s r1 hs hi.r1
  have hR2 := reg_spec s r2 hs hi.r2
  have l1 := regP_lt hs r1
  have l2 := regP_lt hs r2
  obtain ⟨x1, hx1⟩ : ∃ x, regP s r1 = x := ⟨_, rfl⟩
  obtain ⟨x2, hx2⟩ : ∃ x, regP s r2 = x := ⟨_, rfl⟩
  rw [hx1] at hR1 hg l1
  rw [hx2] at hR2 hg l2
  refine Spec.of 59 Try.func61 rfl Try.ntmps61 [(0, _), (1, _)] rfl rfl ?_
  intro cx ρ hr' h0
  have hsl := StP.len hs
  refine Cd.seq fun K35 hK35 => ?_
  refine Cd.plain [(0, false), (1, false), (2, false)] rfl rfl ?_
  refine Jp.box 2 2 rfl (want_all rfl) rfl rfl rfl rfl fun b2 => ⟨Kp.true, ?_⟩
  refine Jp.box 3 3 rfl (want_all rfl) rfl rfl rfl rfl fun b3 => ⟨Kp.true, ?_⟩
  refine Jp.y 4 rfl (want_all rfl) rfl rfl Kp.true (Y.assign rfl rfl) ?_
  refine Jp.done hK35 ?_
  refine Cd.seq fun K36 hK36 => ?_
  refine Cd.block ?_
  refine Cd.seq fun K37 hK37 => ?_
  refine Cd.plain [(0, false), (1, false), (2, false), (3, false)] rfl rfl ?_
  refine Jp.y 8 rfl (want_all rfl) rfl rfl Kp.true (by first | exact Y.fieldAddrP rfl rfl Try.underlying28 rfl Try.sizeOf3 (by decide) (show _ + 0 = _ from rfl) | exact Y.fieldAddr rfl rfl Try.underlying28 rfl Try.sizeOf3 (by decide)) ?_
  refine Jp.y 9 rfl (want_all rfl) rfl rfl Kp.true (by first | exact Y.loadO 2 rfl Try.isAgg3 rfl rfl rfl | exact Y.loadO 3 rfl Try.isAgg3 rfl rfl rfl | exact Y.loadO 2 rfl Try.isAgg3 rfl rfl rfl | exact Y.loadO 3 rfl Try.isAgg3 rfl rfl rfl | exact Y.loadC 3 rfl Try.isAgg3 rfl rfl (HasC.pt (StP.cPc hs))) ?_
  refine Jp.y 10 rfl (want_all rfl) rfl rfl Kp.true (Y.eql rfl rfl rfl) ?_
  refine Jp.y 7 rfl (want_all rfl) rfl rfl Kp.true (Y.assign rfl rfl) ?_
  refine Jp.done hK37 ?_
  refine Cd.cond rfl (fun ga => ?_) (fun ga => ?_)
  · have hop : op = 3 := by simp at ga; omega
    rw [if_pos hop] at hg
    refine Cd.seq fun K38 hK38 => ?_
    refine Cd.plain [(0, false), (1, false), (2, false), (3, false), (4, false), (5, false), (6, false)] rfl rfl ?_
    refine Jp.y 11 rfl (want_all rfl) rfl rfl Kp.true (by first | exact Y.fieldAddrP rfl rfl Try.underlying32 rfl Try.sizeOf25 (by decide) (show _ + 32 = _ from rfl) | exact Y.fieldAddr rfl rfl Try.underlying32 rfl Try.sizeOf25 (by decide)) ?_
    refine Jp.y 12 rfl (want_all rfl) rfl rfl Kp.true (by first | exact Y.loadO 2 rfl Try.isAgg25 rfl rfl rfl | exact Y.loadO 3 rfl Try.isAgg25 rfl rfl rfl | exact Y.loadO 2 rfl Try.isAgg25 rfl rfl rfl | exact Y.loadO 3 rfl Try.isAgg25 rfl rfl rfl | exact Y.loadC 3 rfl Try.isAgg25 rfl rfl (HasC.pt (StP.cPc hs))) ?_
    refine Jp.y 13 rfl (want_all rfl) rfl rfl Kp.true (by first | exact Y.fieldAddrP rfl rfl Try.underlying28 rfl Try.sizeOf21 (by decide) (show _ + 4 = _ from rfl) | exact Y.fieldAddr rfl rfl Try.underlying28 rfl Try.sizeOf21 (by decide)) ?_
    refine Jp.y 14 rfl (want_all rfl) rfl rfl Kp.true (by first | exact Y.loadO 2 rfl Try.isAgg21 rfl rfl rfl | exact Y.loadO 3 rfl Try.isAgg21 rfl rfl rfl | exact Y.loadO 2 rfl Try.isAgg21 rfl rfl rfl | exact Y.loadO 3 rfl Try.isAgg21 rfl rfl rfl | exact Y.loadC 3 rfl Try.isAgg21 rfl rfl (HasC.pt (StP.cPc hs))) ?_
    refine Jp.y 15 rfl (want_all rfl) rfl rfl Kp.true (Y.conv_ rfl rfl Try.underlying21 Try.underlying25 (by first | exact wrap_u32 (by omega) (by omega) | rfl)) ?_
    refine Jp.y 16 rfl (want_all rfl) rfl rfl Kp.true (Y.add_ rfl rfl rfl (by first | exact wrap_u32 (by omega) (by omega) | rfl)) ?_
    refine Jp.y 4 rfl (want_all rfl) rfl rfl Kp.true (Y.assign rfl rfl) ?_
    refine Jp.done hK38 ?_
    refine Cd.ret [] rfl (res1 rfl rfl) trivial ⟨rfl, by rw [wrap_u imm, wrap_u, ← hg], rfl⟩
  · have hop3 : ¬ op = 3 := by simp at ga; omega
    rw [if_neg hop3] at hg
    refine Cd.seq fun K39 hK39 => ?_
    refine Cd.plain [(0, false), (1, false), (2, false), (3, false)] rfl rfl ?_
    refine Jp.y 18 rfl (want_all rfl) rfl rfl Kp.true (by first | exact Y.fieldAddrP rfl rfl Try.underlying28 rfl Try.sizeOf3 (by decide) (show _ + 0 = _ from rfl) | exact Y.fieldAddr rfl rfl Try.underlying28 rfl Try.sizeOf3 (by decide)) ?_
    refine Jp.y 19 rfl (want_all rfl) rfl rfl Kp.true (by first | exact Y.loadO 2 rfl Try.isAgg3 rfl rfl rfl | exact Y.loadO 3 rfl Try.isAgg3 rfl rfl rfl | exact Y.loadO 2 rfl Try.isAgg3 rfl rfl rfl | exact Y.loadO 3 rfl Try.isAgg3 rfl rfl rfl | exact Y.loadC 3 rfl Try.isAgg3 rfl rfl (HasC.pt (StP.cPc hs))) ?_
    refine Jp.y 20 rfl (want_all rfl) rfl rfl Kp.true (Y.eql rfl rfl rfl) ?_
    refine Jp.y 17 rfl (want_all rfl) rfl rfl Kp.true (Y.assign rfl rfl) ?_
    refine Jp.done hK39 ?_
    refine Cd.cond rfl (fun gb => ?_) (fun gb => ?_)
    · have hop : op = 4 := by simp at gb; omega
      rw [if_pos hop] at hg
      refine Cd.seq fun K40 hK40 => ?_
      refine Cd.plain [(0, false), (1, false), (2, false), (3, false), (4, false)] rfl rfl ?_
      refine Jp.y 21 rfl (want_all rfl) rfl rfl Kp.true (by first | exact Y.loadAggO 2 rfl Try.isAgg28 Try.sizeOf28 rfl rfl (by first | rfl | assumption) | exact Y.loadAggO 3 rfl Try.isAgg28 Try.sizeOf28 rfl rfl (by first | rfl | assumption) | exact Y.loadAggO 2 rfl Try.isAgg28 Try.sizeOf28 rfl rfl (by first | rfl | assumption) | exact Y.loadAggO 3 rfl Try.isAgg28 Try.sizeOf28 rfl rfl (by first | rfl | assumption)) ?_
      refine Jp.y 22 rfl (want_all rfl) rfl rfl Kp.true (by first | exact Y.loadAggO 2 rfl Try.isAgg32 Try.sizeOf32 rfl rfl (by first | rfl | assumption) | exact Y.loadAggO 3 rfl Try.isAgg32 Try.sizeOf32 rfl rfl (by first | rfl | assumption) | exact Y.loadAggO 2 rfl Try.isAgg32 Try.sizeOf32 rfl rfl (by first | rfl | assumption) | exact Y.loadAggO 3 rfl Try.isAgg32 Try.sizeOf32 rfl rfl (by first | rfl | assumption)) ?_
      refine Jp.call [] [] hA 23 rfl (want_all rfl) rfl rfl (Runs.fn rfl Try.call65 rfl) (by decide) (by decide) rfl trivial ?_
      rintro v1 ρ1 L1 ⟨rfl, rfl, rfl⟩
      refine ⟨rfl, fun hle1 => ⟨Kp.true, ?_⟩⟩
      refine Jp.y 24 rfl (want_all rfl) rfl rfl Kp.true (Y.bits rfl rfl rfl rfl) ?_
      refine Jp.y 4 rfl (want_all rfl) rfl rfl Kp.true (Y.assign rfl rfl) ?_
      refine Jp.done hK40 ?_
      refine Cd.ret [] rfl (res1 rfl rfl) trivial ⟨rfl, by rw [hb, hg], rfl⟩
    · have hop4 : ¬ op = 4 := by simp at gb; omega
      rw [if_neg hop4] at hg
      refine Cd.seq fun K41 hK41 => ?_
      refine Cd.plain [(0, false), (1, false), (2, false), (3, false), (4, false), (5, false), (6, false), (7, false), (8, false)] rfl rfl ?_
      refine Jp.y 26 rfl (want_all rfl) rfl rfl Kp.true (by first | exact Y.fieldAddrP rfl rfl Try.underlying28 rfl Try.sizeOf3 (by decide) (show _ + 0 = _ from rfl) | exact Y.fieldAddr rfl rfl Try.underlying28 rfl Try.sizeOf3 (by decide)) ?_
      refine Jp.y 27 rfl (want_all rfl) rfl rfl Kp.true (by first | exact Y.loadO 2 rfl Try.isAgg3 rfl rfl rfl | exact Y.loadO 3 rfl Try.isAgg3 rfl rfl rfl | exact Y.loadO 2 rfl Try.isAgg3 rfl rfl rfl | exact Y.loadO 3 rfl Try.isAgg3 rfl rfl rfl | exact Y.loadC 3 rfl Try.isAgg3 rfl rfl (HasC.pt (StP.cPc hs))) ?_
      refine Jp.y 28 rfl (want_all rfl) rfl rfl Kp.true (Y.geq rfl rfl rfl) ?_
      refine Jp.y 29 rfl (want_all rfl) rfl rfl Kp.true (Y.move rfl rfl) ?_
      refine Jp.splitF 29 rfl (fun g29 => ?_) (fun g29 => ?_)
      · skip
        have hno : ¬ (5 ≤ op ∧ op ≤ 10) := by simp at g29; omega
        rw [if_neg (fun h => hno ⟨h.1, h.2.1⟩)] at hg
        refine Jp.skip 30 rfl (want_as rfl rfl rfl rfl) rfl rfl Kp.true ?_
        refine Jp.skip 31 rfl (want_as rfl rfl rfl rfl) rfl rfl Kp.true ?_
        refine Jp.skip 32 rfl (want_as rfl rfl rfl rfl) rfl rfl Kp.true ?_
        refine Jp.y 33 rfl (want_all rfl) rfl rfl Kp.true (Y.pickF rfl rfl rfl) ?_
        refine Jp.y 25 rfl (want_all rfl) rfl rfl Kp.true (Y.assign rfl rfl) ?_
        refine Jp.done hK41 ?_
        refine Cd.condF rfl ?_
        refine Cd.over rfl hK36 ?_
        refine Cd.seq fun K42 hK42 => ?_
        refine Cd.plain [(0, false), (1, false), (2, false), (3, false)] rfl rfl ?_
        refine Jp.y 56 rfl (want_all rfl) rfl rfl Kp.true (by first | exact Y.fieldAddrP rfl rfl Try.underlying32 rfl Try.sizeOf25 (by decide) (show _ + 32 = _ from rfl) | exact Y.fieldAddr rfl rfl Try.underlying32 rfl Try.sizeOf25 (by decide)) ?_
        refine Jp.y 57 rfl (want_all rfl) rfl rfl Kp.true (by first | exact Y.loadO 2 rfl Try.isAgg25 rfl rfl rfl | exact Y.loadO 3 rfl Try.isAgg25 rfl rfl rfl | exact Y.loadO 2 rfl Try.isAgg25 rfl rfl rfl | exact Y.loadO 3 rfl Try.isAgg25 rfl rfl rfl | exact Y.loadC 3 rfl Try.isAgg25 rfl rfl (HasC.pt (StP.cPc hs))) ?_
        refine Jp.y 58 rfl (want_all rfl) rfl rfl Kp.true (Y.add_ rfl rfl rfl (by first | exact wrap_u32 (by omega) (by omega) | rfl)) ?_
        refine Jp.y 4 rfl (want_all rfl) rfl rfl Kp.true (Y.assign rfl rfl) ?_
        refine Jp.done hK42 ?_
        refine Cd.ret [] rfl (res1 rfl rfl) trivial ⟨rfl, by rw [wrap_u, ← hg], rfl⟩
      try simp only [decide_eq_false_iff_not, decide_eq_true_eq, Int.not_lt, Int.not_le, Bool.not_eq_false, Bool.not_eq_true, Bool.not_true, Bool.not_false, Bool.not_eq_true', Bool.not_eq_false', beq_eq_false_iff_ne, ne_eq, beq_iff_eq, bne_iff_ne, bne_eq_false_iff_eq, Classical.not_not] at g29
      refine Jp.y 30 rfl (want_as rfl rfl rfl rfl) rfl rfl Kp.true (by first | exact Y.fieldAddrP rfl rfl Try.underlying28 rfl Try.sizeOf3 (by decide) (show _ + 0 = _ from rfl) | exact Y.fieldAddr rfl rfl Try.underlying28 rfl Try.sizeOf3 (by decide)) ?_
      refine Jp.y 31 rfl (want_as rfl rfl rfl rfl) rfl rfl Kp.true (by first | exact Y.loadO 2 rfl Try.isAgg3 rfl rfl rfl | exact Y.loadO 3 rfl Try.isAgg3 rfl rfl rfl | exact Y.loadO 2 rfl Try.isAgg3 rfl rfl rfl | exact Y.loadO 3 rfl Try.isAgg3 rfl rfl rfl | exact Y.loadC 3 rfl Try.isAgg3 rfl rfl (HasC.pt (StP.cPc hs))) ?_
      refine Jp.y 32 rfl (want_as rfl rfl rfl rfl) rfl rfl Kp.true (Y.leq rfl rfl rfl) ?_
      refine Jp.y 33 rfl (want_all rfl) rfl rfl Kp.true (Y.pickT rfl rfl rfl) ?_
      refine Jp.y 25 rfl (want_all rfl) rfl rfl Kp.true (Y.assign rfl rfl) ?_
      refine Jp.done hK41 ?_
      refine Cd.condF' rfl (fun g25 => ?_) (fun g25 => ?_)
      · skip
        have hno : ¬ (5 ≤ op ∧ op ≤ 10) := by simp at g25; omega
        rw [if_neg (fun h => hno ⟨h.1, h.2.1⟩)] at hg
        refine Cd.over rfl hK36 ?_
        refine Cd.seq fun K43 hK43 => ?_
        refine Cd.plain [(0, false), (1, false), (2, false), (3, false)] rfl rfl ?_
        refine Jp.y 56 rfl (want_all rfl) rfl rfl Kp.true (by first | exact Y.fieldAddrP rfl rfl Try.underlying32 rfl Try.sizeOf25 (by decide) (show _ + 32 = _ from rfl) | exact Y.fieldAddr rfl rfl Try.underlying32 rfl Try.sizeOf25 (by decide)) ?_
        refine Jp.y 57 rfl (want_all rfl) rfl rfl Kp.true (by first | exact Y.loadO 2 rfl Try.isAgg25 rfl rfl rfl | exact Y.loadO 3 rfl Try.isAgg25 rfl rfl rfl | exact Y.loadO 2 rfl Try.isAgg25 rfl rfl rfl | exact Y.loadO 3 rfl Try.isAgg25 rfl rfl rfl | exact Y.loadC 3 rfl Try.isAgg25 rfl rfl (HasC.pt (StP.cPc hs))) ?_
        refine Jp.y 58 rfl (want_all rfl) rfl rfl Kp.true (Y.add_ rfl rfl rfl (by first | exact wrap_u32 (by omega) (by omega) | rfl)) ?_
        refine Jp.y 4 rfl (want_all rfl) rfl rfl Kp.true (Y.assign rfl rfl) ?_
        refine Jp.done hK43 ?_
        refine Cd.ret [] rfl (res1 rfl rfl) trivial ⟨rfl, by rw [wrap_u, ← hg], rfl⟩
      try simp only [decide_eq_false_iff_not, decide_eq_true_eq, Int.not_lt, Int.not_le, Bool.not_eq_false, Bool.not_eq_true, Bool.not_true, Bool.not_false, Bool.not_eq_true', Bool.not_eq_false', beq_eq_false_iff_ne, ne_eq, beq_iff_eq, bne_iff_ne, bne_eq_false_iff_eq, Classical.not_not] at g25
      refine Cd.seq fun K44 hK44 => ?_
      refine Cd.drawn [(2, _), (3, _)] ⟨rfl, rfl, trivial⟩ [(0, true), (1, true), (3, true), (4, true), (5, true), (7, true), (8, true), (9, true), (2, false), (6, false), (10, false), (11, false), (12, true), (13, true), (14, true), (15, true), (16, true)] follows (by kernel_rfl) (fun hrl => ?_)
      have hbr : 5 ≤ op ∧ op ≤ 10 := by (try dsimp only at g25 g29); omega
      refine Jp.q 35 rfl (want_all rfl) rfl rfl (by first | exact Y.fieldAddrP rfl rfl Try.underlying28 rfl Try.sizeOf3 (by decide) (show _ + 0 = _ from rfl) | exact Y.fieldAddr rfl rfl Try.underlying28 rfl Try.sizeOf3 (by decide)) ?_
      refine Jp.q 36 rfl (want_all rfl) rfl rfl (by first | exact Y.loadO 2 rfl Try.isAgg3 rfl rfl rfl | exact Y.loadO 3 rfl Try.isAgg3 rfl rfl rfl | exact Y.loadO 2 rfl Try.isAgg3 rfl rfl rfl | exact Y.loadO 3 rfl Try.isAgg3 rfl rfl rfl | exact Y.loadC 3 rfl Try.isAgg3 rfl rfl (HasC.pt (StP.cPc hs))) ?_
      refine Jp.q 38 rfl (want_all rfl) rfl rfl (by first | exact Y.loadAggO 2 rfl Try.isAgg32 Try.sizeOf32 rfl rfl (by first | rfl | assumption) | exact Y.loadAggO 3 rfl Try.isAgg32 Try.sizeOf32 rfl rfl (by first | rfl | assumption) | exact Y.loadAggO 2 rfl Try.isAgg32 Try.sizeOf32 rfl rfl (by first | rfl | assumption) | exact Y.loadAggO 3 rfl Try.isAgg32 Try.sizeOf32 rfl rfl (by first | rfl | assumption)) ?_
      refine Jp.q 39 rfl (want_all rfl) rfl rfl (by first | exact Y.fieldAddrP rfl rfl Try.underlying28 rfl Try.sizeOf3 (by decide) (show _ + 2 = _ from rfl) | exact Y.fieldAddr rfl rfl Try.underlying28 rfl Try.sizeOf3 (by decide)) ?_
      refine Jp.q 40 rfl (want_all rfl) rfl rfl (by first | exact Y.loadO 2 rfl Try.isAgg3 rfl rfl rfl | exact Y.loadO 3 rfl Try.isAgg3 rfl rfl rfl | exact Y.loadO 2 rfl Try.isAgg3 rfl rfl rfl | exact Y.loadO 3 rfl Try.isAgg3 rfl rfl rfl | exact Y.loadC 3 rfl Try.isAgg3 rfl rfl (HasC.pt (StP.cPc hs))) ?_
      refine Jp.q 42 rfl (want_all rfl) rfl rfl (by first | exact Y.loadAggO 2 rfl Try.isAgg32 Try.sizeOf32 rfl rfl (by first | rfl | assumption) | exact Y.loadAggO 3 rfl Try.isAgg32 Try.sizeOf32 rfl rfl (by first | rfl | assumption) | exact Y.loadAggO 2 rfl Try.isAgg32 Try.sizeOf32 rfl rfl (by first | rfl | assumption) | exact Y.loadAggO 3 rfl Try.isAgg32 Try.sizeOf32 rfl rfl (by first | rfl | assumption)) ?_
      refine Jp.q 43 rfl (want_all rfl) rfl rfl (by first | exact Y.fieldAddrP rfl rfl Try.underlying28 rfl Try.sizeOf3 (by decide) (show _ + 3 = _ from rfl) | exact Y.fieldAddr rfl rfl Try.underlying28 rfl Try.sizeOf3 (by decide)) ?_
      refine Jp.q 44 rfl (want_all rfl) rfl rfl (by first | exact Y.loadO 2 rfl Try.isAgg3 rfl rfl rfl | exact Y.loadO 3 rfl Try.isAgg3 rfl rfl rfl | exact Y.loadO 2 rfl Try.isAgg3 rfl rfl rfl | exact Y.loadO 3 rfl Try.isAgg3 rfl rfl rfl | exact Y.loadC 3 rfl Try.isAgg3 rfl rfl (HasC.pt (StP.cPc hs))) ?_
      refine Jp.call [] [] (brtest_spec op hbr) 37 rfl (want_all rfl) rfl rfl (Runs.fn rfl Try.call90 rfl) (by decide) (by decide) rfl trivial ?_
      rintro v1 ρ1 L1 ⟨rfl, rfl, rfl⟩
      refine ⟨rfl, fun hle1 => ⟨(Kp.st ⟨rfl, rfl, trivial⟩), ?_⟩⟩
      refine Jp.call [] [] hR1 41 rfl (want_all rfl) rfl rfl (Runs.fn rfl Try.call66 rfl) (by decide) (by decide) rfl trivial ?_
      rintro v2 ρ2 L2 ⟨rfl, rfl, rfl⟩
      refine ⟨rfl, fun hle2 => ⟨(Kp.st ⟨rfl, rfl, trivial⟩), ?_⟩⟩
      refine Jp.call [] [] hR2 45 rfl (want_all rfl) rfl rfl (Runs.fn rfl Try.call66 rfl) (by decide) (by decide) rfl trivial ?_
      rintro v3 ρ3 L3 ⟨rfl, rfl, rfl⟩
      refine ⟨rfl, fun hle3 => ⟨(Kp.st ⟨rfl, rfl, trivial⟩), ?_⟩⟩
      refine Jp.call [] [] (test_spec (brK op) x1 x2 (brK_ok hbr) l1 l2) 46 rfl (want_all rfl) rfl rfl (Runs.fn rfl Try.call89 rfl) (by decide) (by decide) rfl trivial ?_
      rintro v4 ρ4 L4 ⟨rfl, rfl, rfl⟩
      refine ⟨rfl, fun hle4 => ⟨(Kp.st ⟨rfl, rfl, trivial⟩), ?_⟩⟩
      refine Jp.q 34 rfl (want_all rfl) rfl rfl (Y.move rfl rfl) ?_
      refine Jp.q 47 rfl (want_all rfl) rfl rfl (Y.extract rfl rfl rfl) ?_
      refine Jp.q 48 rfl (want_all rfl) rfl rfl (Y.extract rfl rfl rfl) ?_
      refine Jp.q 5 rfl (want_all rfl) rfl rfl (Y.assign rfl rfl) ?_
      refine Jp.q 6 rfl (want_all rfl) rfl rfl (Y.assign rfl rfl) ?_
      refine Jp.done hK44 ?_
      refine Cd.seq fun K46 hK46 => ?_
      refine Cd.plain [(0, false)] rfl rfl ?_
      refine Jp.y 49 rfl (want_all rfl) rfl rfl Kp.true (Y.move rfl rfl) ?_
      refine Jp.done hK46 ?_
      refine Cd.cond rfl (fun gc => ?_) (fun gc => ?_)
      · rw [if_pos ⟨hbr.1, hbr.2, gc⟩] at hg
        refine Cd.seq fun K47 hK47 => ?_
        refine Cd.plain [(0, false), (1, false), (2, false), (3, false), (4, false), (5, false), (6, false)] rfl rfl ?_
        refine Jp.y 50 rfl (want_all rfl) rfl rfl Kp.true (by first | exact Y.fieldAddrP rfl rfl Try.underlying32 rfl Try.sizeOf25 (by decide) (show _ + 32 = _ from rfl) | exact Y.fieldAddr rfl rfl Try.underlying32 rfl Try.sizeOf25 (by decide)) ?_
        refine Jp.y 51 rfl (want_all rfl) rfl rfl Kp.true (by first | exact Y.loadO 2 rfl Try.isAgg25 rfl rfl rfl | exact Y.loadO 3 rfl Try.isAgg25 rfl rfl rfl | exact Y.loadO 2 rfl Try.isAgg25 rfl rfl rfl | exact Y.loadO 3 rfl Try.isAgg25 rfl rfl rfl | exact Y.loadC 3 rfl Try.isAgg25 rfl rfl (HasC.pt (StP.cPc hs))) ?_
        refine Jp.y 52 rfl (want_all rfl) rfl rfl Kp.true (by first | exact Y.fieldAddrP rfl rfl Try.underlying28 rfl Try.sizeOf21 (by decide) (show _ + 4 = _ from rfl) | exact Y.fieldAddr rfl rfl Try.underlying28 rfl Try.sizeOf21 (by decide)) ?_
        refine Jp.y 53 rfl (want_all rfl) rfl rfl Kp.true (by first | exact Y.loadO 2 rfl Try.isAgg21 rfl rfl rfl | exact Y.loadO 3 rfl Try.isAgg21 rfl rfl rfl | exact Y.loadO 2 rfl Try.isAgg21 rfl rfl rfl | exact Y.loadO 3 rfl Try.isAgg21 rfl rfl rfl | exact Y.loadC 3 rfl Try.isAgg21 rfl rfl (HasC.pt (StP.cPc hs))) ?_
        refine Jp.y 54 rfl (want_all rfl) rfl rfl Kp.true (Y.conv_ rfl rfl Try.underlying21 Try.underlying25 (by first | exact wrap_u32 (by omega) (by omega) | rfl)) ?_
        refine Jp.y 55 rfl (want_all rfl) rfl rfl Kp.true (Y.add_ rfl rfl rfl (by first | exact wrap_u32 (by omega) (by omega) | rfl)) ?_
        refine Jp.y 4 rfl (want_all rfl) rfl rfl Kp.true (Y.assign rfl rfl) ?_
        refine Jp.done hK47 ?_
        refine Cd.ret [] rfl (res1 rfl rfl) trivial ⟨rfl, by rw [wrap_u imm, wrap_u, ← hg], rfl⟩
      · rw [if_neg (fun h => by rw [h.2.2] at gc; cases gc)] at hg
        refine Cd.over rfl hK36 ?_
        refine Cd.seq fun K48 hK48 => ?_
        refine Cd.plain [(0, false), (1, false), (2, false), (3, false)] rfl rfl ?_
        refine Jp.y 56 rfl (want_all rfl) rfl rfl Kp.true (by first | exact Y.fieldAddrP rfl rfl Try.underlying32 rfl Try.sizeOf25 (by decide) (show _ + 32 = _ from rfl) | exact Y.fieldAddr rfl rfl Try.underlying32 rfl Try.sizeOf25 (by decide)) ?_
        refine Jp.y 57 rfl (want_all rfl) rfl rfl Kp.true (by first | exact Y.loadO 2 rfl Try.isAgg25 rfl rfl rfl | exact Y.loadO 3 rfl Try.isAgg25 rfl rfl rfl | exact Y.loadO 2 rfl Try.isAgg25 rfl rfl rfl | exact Y.loadO 3 rfl Try.isAgg25 rfl rfl rfl | exact Y.loadC 3 rfl Try.isAgg25 rfl rfl (HasC.pt (StP.cPc hs))) ?_
        refine Jp.y 58 rfl (want_all rfl) rfl rfl Kp.true (Y.add_ rfl rfl rfl (by first | exact wrap_u32 (by omega) (by omega) | rfl)) ?_
        refine Jp.y 4 rfl (want_all rfl) rfl rfl Kp.true (Y.assign rfl rfl) ?_
        refine Jp.done hK48 ?_
        refine Cd.ret [] rfl (res1 rfl rfl) trivial ⟨rfl, by rw [wrap_u, ← hg], rfl⟩
def opdP (i : InsP) (s : StP) : Nat := if i.op ≤ 27 then u32 i.imm else regP s i.r2
theorem operand_spec (i : InsP) (s : StP) (hs : StOk s) (hi : InsOk i) : Spec Try.prog 92 #[.agg i.cells.toArray, .agg s.cells.toArray] (fun _ => True) [] (fun ρ ρ' v L => ρ' = ρ ∧ v = .int .u32 (opdP i s : Int) ∧ L = []) := by
  obtain ⟨op, rd, r1, r2, imm⟩ := i
  refine Spec.of 15 Try.func92 rfl Try.ntmps92 [(0, _), (1, _)] rfl rfl ?_
  intro cx ρ hr' h0
  have hsl := StP.len hs
  refine Cd.seq fun K49 hK49 => ?_
  refine Cd.plain [(0, false), (1, false), (2, false)] rfl rfl ?_
  refine Jp.box 2 2 rfl (want_all rfl) rfl rfl rfl rfl fun b2 => ⟨Kp.true, ?_⟩
  refine Jp.box 3 3 rfl (want_all rfl) rfl rfl rfl rfl fun b3 => ⟨Kp.true, ?_⟩
  refine Jp.y 4 rfl (want_all rfl) rfl rfl Kp.true (Y.assign rfl rfl) ?_
  refine Jp.done hK49 ?_
  refine Cd.seq fun K50 hK50 => ?_
  refine Cd.seq fun K51 hK51 => ?_
  refine Cd.plain [(0, false), (1, false), (2, false)] rfl rfl ?_
  refine Jp.y 5 rfl (want_all rfl) rfl rfl Kp.true (by first | exact Y.fieldAddrP rfl rfl Try.underlying28 rfl Try.sizeOf3 (by decide) (show _ + 0 = _ from rfl) | exact Y.fieldAddr rfl rfl Try.underlying28 rfl Try.sizeOf3 (by decide)) ?_
  refine Jp.y 6 rfl (want_all rfl) rfl rfl Kp.true (by first | exact Y.loadO 2 rfl Try.isAgg3 rfl rfl rfl | exact Y.loadO 3 rfl Try.isAgg3 rfl rfl rfl | exact Y.loadO 2 rfl Try.isAgg3 rfl rfl rfl | exact Y.loadO 3 rfl Try.isAgg3 rfl rfl rfl) ?_
  refine Jp.y 7 rfl (want_all rfl) rfl rfl Kp.true (Y.leq rfl rfl rfl) ?_
  refine Jp.done hK51 ?_
  refine Cd.cond rfl (fun ga => ?_) (fun ga => ?_)
  · skip
    refine Cd.seq fun K52 hK52 => ?_
    refine Cd.plain [(0, false), (1, false), (2, false), (3, false)] rfl rfl ?_
    refine Jp.y 8 rfl (want_all rfl) rfl rfl Kp.true (by first | exact Y.fieldAddrP rfl rfl Try.underlying28 rfl Try.sizeOf21 (by decide) (show _ + 4 = _ from rfl) | exact Y.fieldAddr rfl rfl Try.underlying28 rfl Try.sizeOf21 (by decide)) ?_
    refine Jp.y 9 rfl (want_all rfl) rfl rfl Kp.true (by first | exact Y.loadO 2 rfl Try.isAgg21 rfl rfl rfl | exact Y.loadO 3 rfl Try.isAgg21 rfl rfl rfl | exact Y.loadO 2 rfl Try.isAgg21 rfl rfl rfl | exact Y.loadO 3 rfl Try.isAgg21 rfl rfl rfl) ?_
    refine Jp.y 10 rfl (want_all rfl) rfl rfl Kp.true (Y.conv_ rfl rfl Try.underlying21 Try.underlying25 (by first | exact wrap_u32 (by omega) (by omega) | rfl)) ?_
    refine Jp.y 4 rfl (want_all rfl) rfl rfl Kp.true (Y.assign rfl rfl) ?_
    refine Jp.done hK52 ?_
    refine Cd.ret [] rfl (res1 rfl rfl) trivial ⟨rfl, by rw [wrap_u imm, opdP, if_pos (by simp at ga; exact (show op ≤ 27 by omega))], rfl⟩
  · skip
    refine Cd.skip hK50 ?_
    refine Cd.seq fun K53 hK53 => ?_
    refine Cd.plain [(0, false), (1, false), (2, false), (3, false), (4, false)] rfl rfl ?_
    refine Jp.y 11 rfl (want_all rfl) rfl rfl Kp.true (by first | exact Y.loadAggO 2 rfl Try.isAgg32 Try.sizeOf32 rfl rfl (by first | rfl | assumption) | exact Y.loadAggO 3 rfl Try.isAgg32 Try.sizeOf32 rfl rfl (by first | rfl | assumption) | exact Y.loadAggO 2 rfl Try.isAgg32 Try.sizeOf32 rfl rfl (by first | rfl | assumption) | exact Y.loadAggO 3 rfl Try.isAgg32 Try.sizeOf32 rfl rfl (by first | rfl | assumption)) ?_
    refine Jp.y 12 rfl (want_all rfl) rfl rfl Kp.true (by first | exact Y.fieldAddrP rfl rfl Try.underlying28 rfl Try.sizeOf3 (by decide) (show _ + 3 = _ from rfl) | exact Y.fieldAddr rfl rfl Try.underlying28 rfl Try.sizeOf3 (by decide)) ?_
    refine Jp.y 13 rfl (want_all rfl) rfl rfl Kp.true (by first | exact Y.loadO 2 rfl Try.isAgg3 rfl rfl rfl | exact Y.loadO 3 rfl Try.isAgg3 rfl rfl rfl | exact Y.loadO 2 rfl Try.isAgg3 rfl rfl rfl | exact Y.loadO 3 rfl Try.isAgg3 rfl rfl rfl) ?_
    refine Jp.call [] [] (reg_spec s r2 hs hi.r2) 14 rfl (want_all rfl) rfl rfl (Runs.fn rfl Try.call66 rfl) (by decide) (by decide) rfl trivial ?_
    rintro v1 ρ1 L1 ⟨rfl, rfl, rfl⟩
    refine ⟨rfl, fun hle1 => ⟨Kp.true, ?_⟩⟩
    refine Jp.y 4 rfl (want_all rfl) rfl rfl Kp.true (Y.assign rfl rfl) ?_
    refine Jp.done hK53 ?_
    refine Cd.ret [] rfl (res1 rfl rfl) trivial ⟨rfl, by rw [opdP, if_neg (by simp at ga; exact (show ¬ op ≤ 27 by omega))], rfl⟩
def kindA (op : Nat) : Nat := if 19 ≤ op ∧ op ≤ 27 then [0, 3, 4, 5, 8, 9, 2, 6, 7].getD (op - 19) 0 else if 28 ≤ op ∧ op ≤ 37 then op - 28 else if 38 ≤ op ∧ op ≤ 45 then op - 28 else 0
def isKind (op : Nat) : Bool := decide (19 ≤ op ∧ op ≤ 45)
theorem kindA_le (op : Nat) : kindA op ≤ 17 := by
  unfold kindA
  split
  · rename_i h
    rcases (show op = 19 ∨ op = 20 ∨ op = 21 ∨ op = 22 ∨ op = 23 ∨ op = 24 ∨ op = 25 ∨ op = 26 ∨ op = 27 by omega) with rfl | rfl | rfl | rfl | rfl | rfl | rfl | rfl | rfl <;> decide
  · split
    · omega
    · split <;> omega
theorem kind_spec (op : Nat) : Spec Try.prog 16 #[.int .i64 op] (fun _ => True) [] (fun ρ ρ' v L => ρ' = ρ ∧ v = .tuple #[.int .i64 (kindA op : Int), .bool (isKind op)] ∧ L = []) := by
  refine Spec.of 36 Try.func16 rfl Try.ntmps16 [(0, _)] rfl rfl ?_
  intro cx ρ hr' h0
  have hidx1 : 19 ≤ op ∧ op ≤ 27 → (#[Value.int .i64 0, Value.int .i64 3, Value.int .i64 4, Value.int .i64 5, Value.int .i64 8, Value.int .i64 9, Value.int .i64 2, Value.int .i64 6, Value.int .i64 7] : Array Value)[((op : Int) - 19).toNat * 1]? = some (.int .i64 (kindA op : Int)) := fun h => by
    rcases (show op = 19 ∨ op = 20 ∨ op = 21 ∨ op = 22 ∨ op = 23 ∨ op = 24 ∨ op = 25 ∨ op = 26 ∨ op = 27 by omega) with rfl | rfl | rfl | rfl | rfl | rfl | rfl | rfl | rfl <;> rfl
  have hidx2 : 28 ≤ op ∧ op ≤ 37 → (#[Value.int .i64 0, Value.int .i64 1, Value.int .i64 2, Value.int .i64 3, Value.int .i64 4, Value.int .i64 5, Value.int .i64 6, Value.int .i64 7, Value.int .i64 8, Value.int .i64 9] : Array Value)[((op : Int) - 28).toNat * 1]? = some (.int .i64 (kindA op : Int)) := fun h => by
    rcases (show op = 28 ∨ op = 29 ∨ op = 30 ∨ op = 31 ∨ op = 32 ∨ op = 33 ∨ op = 34 ∨ op = 35 ∨ op = 36 ∨ op = 37 by omega) with rfl | rfl | rfl | rfl | rfl | rfl | rfl | rfl | rfl | rfl <;> rfl
  refine Cd.seq fun K54 hK54 => ?_
  refine Cd.plain [(0, false), (1, false)] rfl rfl ?_
  refine Jp.y 2 rfl (want_all rfl) rfl rfl Kp.true (Y.assign rfl rfl) ?_
  refine Jp.y 3 rfl (want_all rfl) rfl rfl Kp.true (Y.assign rfl rfl) ?_
  refine Jp.done hK54 ?_
  refine Cd.seq fun K55 hK55 => ?_
  refine Cd.block ?_
  refine Cd.seq fun K56 hK56 => ?_
  refine Cd.plain [(0, false), (1, false), (2, false), (3, false), (4, false), (5, false), (6, false)] rfl rfl ?_
  refine Jp.y 5 rfl (want_all rfl) rfl rfl Kp.true (Y.move rfl rfl) ?_
  refine Jp.y 6 rfl (want_all rfl) rfl rfl Kp.true (Y.geq rfl rfl rfl) ?_
  refine Jp.y 7 rfl (want_all rfl) rfl rfl Kp.true (Y.move rfl rfl) ?_
  refine Jp.split 7 rfl (fun g7 => ?_) (fun g7 => ?_)
  · skip
    try simp only [decide_eq_false_iff_not, decide_eq_true_eq, Int.not_lt, Int.not_le, Bool.not_eq_false, Bool.not_eq_true, Bool.not_true, Bool.not_false, Bool.not_eq_true', Bool.not_eq_false', beq_eq_false_iff_ne, ne_eq, beq_iff_eq, bne_iff_ne, bne_eq_false_iff_eq, Classical.not_not] at g7
    refine Jp.y 8 rfl (want_as rfl rfl rfl rfl) rfl rfl Kp.true (Y.move rfl rfl) ?_
    refine Jp.y 9 rfl (want_as rfl rfl rfl rfl) rfl rfl Kp.true (Y.leq rfl rfl rfl) ?_
    refine Jp.y 10 rfl (want_all rfl) rfl rfl Kp.true (Y.pickT rfl rfl rfl) ?_
    refine Jp.y 4 rfl (want_all rfl) rfl rfl Kp.true (Y.assign rfl rfl) ?_
    refine Jp.done hK56 ?_
    refine Cd.cond rfl (fun g4 => ?_) (fun g4 => ?_)
    · skip
      try simp only [decide_eq_false_iff_not, decide_eq_true_eq, Int.not_lt, Int.not_le, Bool.not_eq_false, Bool.not_eq_true, Bool.not_true, Bool.not_false, Bool.not_eq_true', Bool.not_eq_false', beq_eq_false_iff_ne, ne_eq, beq_iff_eq, bne_iff_ne, bne_eq_false_iff_eq, Classical.not_not] at g4
      refine Cd.seq fun K57 hK57 => ?_
      refine Cd.plain [(0, false), (1, false), (2, false), (3, false), (4, false), (5, false)] rfl rfl ?_
      refine Jp.y 11 rfl (want_all rfl) rfl rfl Kp.true (Y.array [(0, _), (1, _), (2, _), (3, _), (4, _), (5, _), (6, _), (7, _), (8, _)] [_, _, _, _, _, _, _, _, _] rfl rfl Try.underlying101 Try.sizeOf3 Try.zeroValue101 rfl) ?_
      refine Jp.y 12 rfl (want_all rfl) rfl rfl Kp.true (Y.move rfl rfl) ?_
      refine Jp.y 13 rfl (want_all rfl) rfl rfl Kp.true (Y.sub_ rfl rfl rfl (by first | exact wrap_i64 (by omega) (by omega) | rfl)) ?_
      refine Jp.y 14 rfl (want_all rfl) rfl rfl Kp.true (Y.indexV (v := .int .i64 (kindA op : Int)) rfl Try.underlying101 Try.sizeOf3 Try.isAgg3 rfl rfl (by omega) (by omega) (hidx1 (by omega))) ?_
      refine Jp.y 2 rfl (want_all rfl) rfl rfl Kp.true (Y.assign rfl rfl) ?_
      refine Jp.y 3 rfl (want_all rfl) rfl rfl Kp.true (Y.assign rfl rfl) ?_
      refine Jp.done hK57 ?_
      refine Cd.ret [] rfl (res2 rfl rfl rfl) trivial ⟨rfl, by rw [show isKind op = true from decide_eq_true (by omega)], rfl⟩
    · skip
      try simp only [decide_eq_false_iff_not, decide_eq_true_eq, Int.not_lt, Int.not_le, Bool.not_eq_false, Bool.not_eq_true, Bool.not_true, Bool.not_false, Bool.not_eq_true', Bool.not_eq_false', beq_eq_false_iff_ne, ne_eq, beq_iff_eq, bne_iff_ne, bne_eq_false_iff_eq, Classical.not_not] at g4
      refine Cd.seq fun K58 hK58 => ?_
      refine Cd.plain [(0, false), (1, false), (2, false), (3, false), (4, false), (5, false), (6, false)] rfl rfl ?_
      refine Jp.y 16 rfl (want_all rfl) rfl rfl Kp.true (Y.move rfl rfl) ?_
      refine Jp.y 17 rfl (want_all rfl) rfl rfl Kp.true (Y.geq rfl rfl rfl) ?_
      refine Jp.y 18 rfl (want_all rfl) rfl rfl Kp.true (Y.move rfl rfl) ?_
      refine Jp.split 18 rfl (fun g18 => ?_) (fun g18 => ?_)
      · skip
        try simp only [decide_eq_false_iff_not, decide_eq_true_eq, Int.not_lt, Int.not_le, Bool.not_eq_false, Bool.not_eq_true, Bool.not_true, Bool.not_false, Bool.not_eq_true', Bool.not_eq_false', beq_eq_false_iff_ne, ne_eq, beq_iff_eq, bne_iff_ne, bne_eq_false_iff_eq, Classical.not_not] at g18
        refine Jp.y 19 rfl (want_as rfl rfl rfl rfl) rfl rfl Kp.true (Y.move rfl rfl) ?_
        refine Jp.y 20 rfl (want_as rfl rfl rfl rfl) rfl rfl Kp.true (Y.leq rfl rfl rfl) ?_
        refine Jp.y 21 rfl (want_all rfl) rfl rfl Kp.true (Y.pickT rfl rfl rfl) ?_
        refine Jp.y 15 rfl (want_all rfl) rfl rfl Kp.true (Y.assign rfl rfl) ?_
        refine Jp.done hK58 ?_
        refine Cd.cond rfl (fun g15 => ?_) (fun g15 => ?_)
        · skip
          try simp only [decide_eq_false_iff_not, decide_eq_true_eq, Int.not_lt, Int.not_le, Bool.not_eq_false, Bool.not_eq_true, Bool.not_true, Bool.not_false, Bool.not_eq_true', Bool.not_eq_false', beq_eq_false_iff_ne, ne_eq, beq_iff_eq, bne_iff_ne, bne_eq_false_iff_eq, Classical.not_not] at g15
          refine Cd.seq fun K59 hK59 => ?_
          refine Cd.plain [(0, false), (1, false), (2, false), (3, false), (4, false), (5, false)] rfl rfl ?_
          refine Jp.y 22 rfl (want_all rfl) rfl rfl Kp.true (Y.array [(0, _), (1, _), (2, _), (3, _), (4, _), (5, _), (6, _), (7, _), (8, _), (9, _)] [_, _, _, _, _, _, _, _, _, _] rfl rfl Try.underlying102 Try.sizeOf3 Try.zeroValue102 rfl) ?_
          refine Jp.y 23 rfl (want_all rfl) rfl rfl Kp.true (Y.move rfl rfl) ?_
          refine Jp.y 24 rfl (want_all rfl) rfl rfl Kp.true (Y.sub_ rfl rfl rfl (by first | exact wrap_i64 (by omega) (by omega) | rfl)) ?_
          refine Jp.y 25 rfl (want_all rfl) rfl rfl Kp.true (Y.indexV (v := .int .i64 (kindA op : Int)) rfl Try.underlying102 Try.sizeOf3 Try.isAgg3 rfl rfl (by omega) (by omega) (hidx2 (by omega))) ?_
          refine Jp.y 2 rfl (want_all rfl) rfl rfl Kp.true (Y.assign rfl rfl) ?_
          refine Jp.y 3 rfl (want_all rfl) rfl rfl Kp.true (Y.assign rfl rfl) ?_
          refine Jp.done hK59 ?_
          refine Cd.ret [] rfl (res2 rfl rfl rfl) trivial ⟨rfl, by rw [show isKind op = true from decide_eq_true (by omega)], rfl⟩
        · skip
          try simp only [decide_eq_false_iff_not, decide_eq_true_eq, Int.not_lt, Int.not_le, Bool.not_eq_false, Bool.not_eq_true, Bool.not_true, Bool.not_false, Bool.not_eq_true', Bool.not_eq_false', beq_eq_false_iff_ne, ne_eq, beq_iff_eq, bne_iff_ne, bne_eq_false_iff_eq, Classical.not_not] at g15
          refine Cd.seq fun K60 hK60 => ?_
          refine Cd.plain [(0, false), (1, false), (2, false), (3, false), (4, false), (5, false), (6, false)] rfl rfl ?_
          refine Jp.y 27 rfl (want_all rfl) rfl rfl Kp.true (Y.move rfl rfl) ?_
          refine Jp.y 28 rfl (want_all rfl) rfl rfl Kp.true (Y.geq rfl rfl rfl) ?_
          refine Jp.y 29 rfl (want_all rfl) rfl rfl Kp.true (Y.move rfl rfl) ?_
          refine Jp.split 29 rfl (fun g29 => ?_) (fun g29 => ?_)
          · skip
            try simp only [decide_eq_false_iff_not, decide_eq_true_eq, Int.not_lt, Int.not_le, Bool.not_eq_false, Bool.not_eq_true, Bool.not_true, Bool.not_false, Bool.not_eq_true', Bool.not_eq_false', beq_eq_false_iff_ne, ne_eq, beq_iff_eq, bne_iff_ne, bne_eq_false_iff_eq, Classical.not_not] at g29
            refine Jp.y 30 rfl (want_as rfl rfl rfl rfl) rfl rfl Kp.true (Y.move rfl rfl) ?_
            refine Jp.y 31 rfl (want_as rfl rfl rfl rfl) rfl rfl Kp.true (Y.leq rfl rfl rfl) ?_
            refine Jp.y 32 rfl (want_all rfl) rfl rfl Kp.true (Y.pickT rfl rfl rfl) ?_
            refine Jp.y 26 rfl (want_all rfl) rfl rfl Kp.true (Y.assign rfl rfl) ?_
            refine Jp.done hK60 ?_
            refine Cd.cond rfl (fun g26 => ?_) (fun g26 => ?_)
            · skip
              try simp only [decide_eq_false_iff_not, decide_eq_true_eq, Int.not_lt, Int.not_le, Bool.not_eq_false, Bool.not_eq_true, Bool.not_true, Bool.not_false, Bool.not_eq_true', Bool.not_eq_false', beq_eq_false_iff_ne, ne_eq, beq_iff_eq, bne_iff_ne, bne_eq_false_iff_eq, Classical.not_not] at g26
              refine Cd.seq fun K61 hK61 => ?_
              refine Cd.plain [(0, false), (1, false), (2, false), (3, false), (4, false)] rfl rfl ?_
              refine Jp.y 33 rfl (want_all rfl) rfl rfl Kp.true (Y.move rfl rfl) ?_
              refine Jp.y 34 rfl (want_all rfl) rfl rfl Kp.true (Y.sub_ rfl rfl rfl (by first | exact wrap_i64 (by omega) (by omega) | rfl)) ?_
              refine Jp.y 35 rfl (want_all rfl) rfl rfl Kp.true (Y.add_ rfl rfl rfl (by first | exact wrap_i64 (by omega) (by omega) | rfl)) ?_
              refine Jp.y 2 rfl (want_all rfl) rfl rfl Kp.true (Y.assign rfl rfl) ?_
              refine Jp.y 3 rfl (want_all rfl) rfl rfl Kp.true (Y.assign rfl rfl) ?_
              refine Jp.done hK61 ?_
              refine Cd.ret [] rfl (res2 rfl rfl rfl) trivial ⟨rfl, by first | (exfalso; omega) | (rw [show isKind op = true from decide_eq_true (by omega)]; first | rfl | (rw [show kindA op = op - 28 by (rw [kindA, if_neg (by omega), if_neg (by omega), if_pos (by omega)])]; exact congrArg (fun x => Value.tuple #[.int .i64 x, .bool true]) (by omega))) | (rw [show isKind op = false from decide_eq_false (by omega), show kindA op = 0 by (rw [kindA, if_neg (by omega), if_neg (by omega), if_neg (by omega)])]; rfl), rfl⟩
            · skip
              try simp only [decide_eq_false_iff_not, decide_eq_true_eq, Int.not_lt, Int.not_le, Bool.not_eq_false, Bool.not_eq_true, Bool.not_true, Bool.not_false, Bool.not_eq_true', Bool.not_eq_false', beq_eq_false_iff_ne, ne_eq, beq_iff_eq, bne_iff_ne, bne_eq_false_iff_eq, Classical.not_not] at g26
              refine Cd.over rfl hK55 ?_
              refine Cd.seq fun K62 hK62 => ?_
              refine Cd.plain [(0, false), (1, false)] rfl rfl ?_
              refine Jp.y 2 rfl (want_all rfl) rfl rfl Kp.true (Y.assign rfl rfl) ?_
              refine Jp.y 3 rfl (want_all rfl) rfl rfl Kp.true (Y.assign rfl rfl) ?_
              refine Jp.done hK62 ?_
              refine Cd.ret [] rfl (res2 rfl rfl rfl) trivial ⟨rfl, by first | (exfalso; omega) | (rw [show isKind op = true from decide_eq_true (by omega)]; first | rfl | (rw [show kindA op = op - 28 by (rw [kindA, if_neg (by omega), if_neg (by omega), if_pos (by omega)])]; exact congrArg (fun x => Value.tuple #[.int .i64 x, .bool true]) (by omega))) | (rw [show isKind op = false from decide_eq_false (by omega), show kindA op = 0 by (rw [kindA, if_neg (by omega), if_neg (by omega), if_neg (by omega)])]; rfl), rfl⟩
          · skip
            try simp only [decide_eq_false_iff_not, decide_eq_true_eq, Int.not_lt, Int.not_le, Bool.not_eq_false, Bool.not_eq_true, Bool.not_true, Bool.not_false, Bool.not_eq_true', Bool.not_eq_false', beq_eq_false_iff_ne, ne_eq, beq_iff_eq, bne_iff_ne, bne_eq_false_iff_eq, Classical.not_not] at g29
            refine Jp.skip 30 rfl (want_as rfl rfl rfl rfl) rfl rfl Kp.true ?_
            refine Jp.skip 31 rfl (want_as rfl rfl rfl rfl) rfl rfl Kp.true ?_
            refine Jp.y 32 rfl (want_all rfl) rfl rfl Kp.true (Y.pickF rfl rfl rfl) ?_
            refine Jp.y 26 rfl (want_all rfl) rfl rfl Kp.true (Y.assign rfl rfl) ?_
            refine Jp.done hK60 ?_
            refine Cd.condF rfl ?_
            refine Cd.over rfl hK55 ?_
            refine Cd.seq fun K63 hK63 => ?_
            refine Cd.plain [(0, false), (1, false)] rfl rfl ?_
            refine Jp.y 2 rfl (want_all rfl) rfl rfl Kp.true (Y.assign rfl rfl) ?_
            refine Jp.y 3 rfl (want_all rfl) rfl rfl Kp.true (Y.assign rfl rfl) ?_
            refine Jp.done hK63 ?_
            refine Cd.ret [] rfl (res2 rfl rfl rfl) trivial ⟨rfl, by first | (exfalso; omega) | (rw [show isKind op = true from decide_eq_true (by omega)]; first | rfl | (rw [show kindA op = op - 28 by (rw [kindA, if_neg (by omega), if_neg (by omega), if_pos (by omega)])]; exact congrArg (fun x => Value.tuple #[.int .i64 x, .bool true]) (by omega))) | (rw [show isKind op = false from decide_eq_false (by omega), show kindA op = 0 by (rw [kindA, if_neg (by omega), if_neg (by omega), if_neg (by omega)])]; rfl), rfl⟩
      · skip
        try simp only [decide_eq_false_iff_not, decide_eq_true_eq, Int.not_lt, Int.not_le, Bool.not_eq_false, Bool.not_eq_true, Bool.not_true, Bool.not_false, Bool.not_eq_true', Bool.not_eq_false', beq_eq_false_iff_ne, ne_eq, beq_iff_eq, bne_iff_ne, bne_eq_false_iff_eq, Classical.not_not] at g18
        refine Jp.skip 19 rfl (want_as rfl rfl rfl rfl) rfl rfl Kp.true ?_
        refine Jp.skip 20 rfl (want_as rfl rfl rfl rfl) rfl rfl Kp.true ?_
        refine Jp.y 21 rfl (want_all rfl) rfl rfl Kp.true (Y.pickF rfl rfl rfl) ?_
        refine Jp.y 15 rfl (want_all rfl) rfl rfl Kp.true (Y.assign rfl rfl) ?_
        refine Jp.done hK58 ?_
        refine Cd.condF rfl ?_
        refine Cd.seq fun K64 hK64 => ?_
        refine Cd.plain [(0, false), (1, false), (2, false), (3, false), (4, false), (5, false), (6, false)] rfl rfl ?_
        refine Jp.y 27 rfl (want_all rfl) rfl rfl Kp.true (Y.move rfl rfl) ?_
        refine Jp.y 28 rfl (want_all rfl) rfl rfl Kp.true (Y.geq rfl rfl rfl) ?_
        refine Jp.y 29 rfl (want_all rfl) rfl rfl Kp.true (Y.move rfl rfl) ?_
        refine Jp.split 29 rfl (fun g29 => ?_) (fun g29 => ?_)
        · skip
          try simp only [decide_eq_false_iff_not, decide_eq_true_eq, Int.not_lt, Int.not_le, Bool.not_eq_false, Bool.not_eq_true, Bool.not_true, Bool.not_false, Bool.not_eq_true', Bool.not_eq_false', beq_eq_false_iff_ne, ne_eq, beq_iff_eq, bne_iff_ne, bne_eq_false_iff_eq, Classical.not_not] at g29
          refine Jp.y 30 rfl (want_as rfl rfl rfl rfl) rfl rfl Kp.true (Y.move rfl rfl) ?_
          refine Jp.y 31 rfl (want_as rfl rfl rfl rfl) rfl rfl Kp.true (Y.leq rfl rfl rfl) ?_
          refine Jp.y 32 rfl (want_all rfl) rfl rfl Kp.true (Y.pickT rfl rfl rfl) ?_
          refine Jp.y 26 rfl (want_all rfl) rfl rfl Kp.true (Y.assign rfl rfl) ?_
          refine Jp.done hK64 ?_
          refine Cd.cond rfl (fun g26 => ?_) (fun g26 => ?_)
          · skip
            try simp only [decide_eq_false_iff_not, decide_eq_true_eq, Int.not_lt, Int.not_le, Bool.not_eq_false, Bool.not_eq_true, Bool.not_true, Bool.not_false, Bool.not_eq_true', Bool.not_eq_false', beq_eq_false_iff_ne, ne_eq, beq_iff_eq, bne_iff_ne, bne_eq_false_iff_eq, Classical.not_not] at g26
            refine Cd.seq fun K65 hK65 => ?_
            refine Cd.plain [(0, false), (1, false), (2, false), (3, false), (4, false)] rfl rfl ?_
            refine Jp.y 33 rfl (want_all rfl) rfl rfl Kp.true (Y.move rfl rfl) ?_
            refine Jp.y 34 rfl (want_all rfl) rfl rfl Kp.true (Y.sub_ rfl rfl rfl (by first | exact wrap_i64 (by omega) (by omega) | rfl)) ?_
            refine Jp.y 35 rfl (want_all rfl) rfl rfl Kp.true (Y.add_ rfl rfl rfl (by first | exact wrap_i64 (by omega) (by omega) | rfl)) ?_
            refine Jp.y 2 rfl (want_all rfl) rfl rfl Kp.true (Y.assign rfl rfl) ?_
            refine Jp.y 3 rfl (want_all rfl) rfl rfl Kp.true (Y.assign rfl rfl) ?_
            refine Jp.done hK65 ?_
            refine Cd.ret [] rfl (res2 rfl rfl rfl) trivial ⟨rfl, by first | (exfalso; omega) | (rw [show isKind op = true from decide_eq_true (by omega)]; first | rfl | (rw [show kindA op = op - 28 by (rw [kindA, if_neg (by omega), if_neg (by omega), if_pos (by omega)])]; exact congrArg (fun x => Value.tuple #[.int .i64 x, .bool true]) (by omega))) | (rw [show isKind op = false from decide_eq_false (by omega), show kindA op = 0 by (rw [kindA, if_neg (by omega), if_neg (by omega), if_neg (by omega)])]; rfl), rfl⟩
          · skip
            try simp only [decide_eq_false_iff_not, decide_eq_true_eq, Int.not_lt, Int.not_le, Bool.not_eq_false, Bool.not_eq_true, Bool.not_true, Bool.not_false, Bool.not_eq_true', Bool.not_eq_false', beq_eq_false_iff_ne, ne_eq, beq_iff_eq, bne_iff_ne, bne_eq_false_iff_eq, Classical.not_not] at g26
            refine Cd.over rfl hK55 ?_
            refine Cd.seq fun K66 hK66 => ?_
            refine Cd.plain [(0, false), (1, false)] rfl rfl ?_
            refine Jp.y 2 rfl (want_all rfl) rfl rfl Kp.true (Y.assign rfl rfl) ?_
            refine Jp.y 3 rfl (want_all rfl) rfl rfl Kp.true (Y.assign rfl rfl) ?_
            refine Jp.done hK66 ?_
            refine Cd.ret [] rfl (res2 rfl rfl rfl) trivial ⟨rfl, by first | (exfalso; omega) | (rw [show isKind op = true from decide_eq_true (by omega)]; first | rfl | (rw [show kindA op = op - 28 by (rw [kindA, if_neg (by omega), if_neg (by omega), if_pos (by omega)])]; exact congrArg (fun x => Value.tuple #[.int .i64 x, .bool true]) (by omega))) | (rw [show isKind op = false from decide_eq_false (by omega), show kindA op = 0 by (rw [kindA, if_neg (by omega), if_neg (by omega), if_neg (by omega)])]; rfl), rfl⟩
        · skip
          try simp only [decide_eq_false_iff_not, decide_eq_true_eq, Int.not_lt, Int.not_le, Bool.not_eq_false, Bool.not_eq_true, Bool.not_true, Bool.not_false, Bool.not_eq_true', Bool.not_eq_false', beq_eq_false_iff_ne, ne_eq, beq_iff_eq, bne_iff_ne, bne_eq_false_iff_eq, Classical.not_not] at g29
          refine Jp.skip 30 rfl (want_as rfl rfl rfl rfl) rfl rfl Kp.true ?_
          refine Jp.skip 31 rfl (want_as rfl rfl rfl rfl) rfl rfl Kp.true ?_
          refine Jp.y 32 rfl (want_all rfl) rfl rfl Kp.true (Y.pickF rfl rfl rfl) ?_
          refine Jp.y 26 rfl (want_all rfl) rfl rfl Kp.true (Y.assign rfl rfl) ?_
          refine Jp.done hK64 ?_
          refine Cd.condF rfl ?_
          refine Cd.over rfl hK55 ?_
          refine Cd.seq fun K67 hK67 => ?_
          refine Cd.plain [(0, false), (1, false)] rfl rfl ?_
          refine Jp.y 2 rfl (want_all rfl) rfl rfl Kp.true (Y.assign rfl rfl) ?_
          refine Jp.y 3 rfl (want_all rfl) rfl rfl Kp.true (Y.assign rfl rfl) ?_
          refine Jp.done hK67 ?_
          refine Cd.ret [] rfl (res2 rfl rfl rfl) trivial ⟨rfl, by first | (exfalso; omega) | (rw [show isKind op = true from decide_eq_true (by omega)]; first | rfl | (rw [show kindA op = op - 28 by (rw [kindA, if_neg (by omega), if_neg (by omega), if_pos (by omega)])]; exact congrArg (fun x => Value.tuple #[.int .i64 x, .bool true]) (by omega))) | (rw [show isKind op = false from decide_eq_false (by omega), show kindA op = 0 by (rw [kindA, if_neg (by omega), if_neg (by omega), if_neg (by omega)])]; rfl), rfl⟩
  · skip
    try simp only [decide_eq_false_iff_not, decide_eq_true_eq, Int.not_lt, Int.not_le, Bool.not_eq_false, Bool.not_eq_true, Bool.not_true, Bool.not_false, Bool.not_eq_true', Bool.not_eq_false', beq_eq_false_iff_ne, ne_eq, beq_iff_eq, bne_iff_ne, bne_eq_false_iff_eq, Classical.not_not] at g7
    refine Jp.skip 8 rfl (want_as rfl rfl rfl rfl) rfl rfl Kp.true ?_
    refine Jp.skip 9 rfl (want_as rfl rfl rfl rfl) rfl rfl Kp.true ?_
    refine Jp.y 10 rfl (want_all rfl) rfl rfl Kp.true (Y.pickF rfl rfl rfl) ?_
    refine Jp.y 4 rfl (want_all rfl) rfl rfl Kp.true (Y.assign rfl rfl) ?_
    refine Jp.done hK56 ?_
    refine Cd.condF rfl ?_
    refine Cd.seq fun K68 hK68 => ?_
    refine Cd.plain [(0, false), (1, false), (2, false), (3, false), (4, false), (5, false), (6, false)] rfl rfl ?_
    refine Jp.y 16 rfl (want_all rfl) rfl rfl Kp.true (Y.move rfl rfl) ?_
    refine Jp.y 17 rfl (want_all rfl) rfl rfl Kp.true (Y.geq rfl rfl rfl) ?_
    refine Jp.y 18 rfl (want_all rfl) rfl rfl Kp.true (Y.move rfl rfl) ?_
    refine Jp.split 18 rfl (fun g18 => ?_) (fun g18 => ?_)
    · skip
      try simp only [decide_eq_false_iff_not, decide_eq_true_eq, Int.not_lt, Int.not_le, Bool.not_eq_false, Bool.not_eq_true, Bool.not_true, Bool.not_false, Bool.not_eq_true', Bool.not_eq_false', beq_eq_false_iff_ne, ne_eq, beq_iff_eq, bne_iff_ne, bne_eq_false_iff_eq, Classical.not_not] at g18
      refine Jp.y 19 rfl (want_as rfl rfl rfl rfl) rfl rfl Kp.true (Y.move rfl rfl) ?_
      refine Jp.y 20 rfl (want_as rfl rfl rfl rfl) rfl rfl Kp.true (Y.leq rfl rfl rfl) ?_
      refine Jp.y 21 rfl (want_all rfl) rfl rfl Kp.true (Y.pickT rfl rfl rfl) ?_
      refine Jp.y 15 rfl (want_all rfl) rfl rfl Kp.true (Y.assign rfl rfl) ?_
      refine Jp.done hK68 ?_
      refine Cd.cond rfl (fun g15 => ?_) (fun g15 => ?_)
      · skip
        try simp only [decide_eq_false_iff_not, decide_eq_true_eq, Int.not_lt, Int.not_le, Bool.not_eq_false, Bool.not_eq_true, Bool.not_true, Bool.not_false, Bool.not_eq_true', Bool.not_eq_false', beq_eq_false_iff_ne, ne_eq, beq_iff_eq, bne_iff_ne, bne_eq_false_iff_eq, Classical.not_not] at g15
        refine Cd.seq fun K69 hK69 => ?_
        refine Cd.plain [(0, false), (1, false), (2, false), (3, false), (4, false), (5, false)] rfl rfl ?_
        refine Jp.y 22 rfl (want_all rfl) rfl rfl Kp.true (Y.array [(0, _), (1, _), (2, _), (3, _), (4, _), (5, _), (6, _), (7, _), (8, _), (9, _)] [_, _, _, _, _, _, _, _, _, _] rfl rfl Try.underlying102 Try.sizeOf3 Try.zeroValue102 rfl) ?_
        refine Jp.y 23 rfl (want_all rfl) rfl rfl Kp.true (Y.move rfl rfl) ?_
        refine Jp.y 24 rfl (want_all rfl) rfl rfl Kp.true (Y.sub_ rfl rfl rfl (by first | exact wrap_i64 (by omega) (by omega) | rfl)) ?_
        refine Jp.y 25 rfl (want_all rfl) rfl rfl Kp.true (Y.indexV (v := .int .i64 (kindA op : Int)) rfl Try.underlying102 Try.sizeOf3 Try.isAgg3 rfl rfl (by omega) (by omega) (hidx2 (by omega))) ?_
        refine Jp.y 2 rfl (want_all rfl) rfl rfl Kp.true (Y.assign rfl rfl) ?_
        refine Jp.y 3 rfl (want_all rfl) rfl rfl Kp.true (Y.assign rfl rfl) ?_
        refine Jp.done hK69 ?_
        refine Cd.ret [] rfl (res2 rfl rfl rfl) trivial ⟨rfl, by rw [show isKind op = true from decide_eq_true (by omega)], rfl⟩
      · skip
        try simp only [decide_eq_false_iff_not, decide_eq_true_eq, Int.not_lt, Int.not_le, Bool.not_eq_false, Bool.not_eq_true, Bool.not_true, Bool.not_false, Bool.not_eq_true', Bool.not_eq_false', beq_eq_false_iff_ne, ne_eq, beq_iff_eq, bne_iff_ne, bne_eq_false_iff_eq, Classical.not_not] at g15
        refine Cd.seq fun K70 hK70 => ?_
        refine Cd.plain [(0, false), (1, false), (2, false), (3, false), (4, false), (5, false), (6, false)] rfl rfl ?_
        refine Jp.y 27 rfl (want_all rfl) rfl rfl Kp.true (Y.move rfl rfl) ?_
        refine Jp.y 28 rfl (want_all rfl) rfl rfl Kp.true (Y.geq rfl rfl rfl) ?_
        refine Jp.y 29 rfl (want_all rfl) rfl rfl Kp.true (Y.move rfl rfl) ?_
        refine Jp.split 29 rfl (fun g29 => ?_) (fun g29 => ?_)
        · skip
          try simp only [decide_eq_false_iff_not, decide_eq_true_eq, Int.not_lt, Int.not_le, Bool.not_eq_false, Bool.not_eq_true, Bool.not_true, Bool.not_false, Bool.not_eq_true', Bool.not_eq_false', beq_eq_false_iff_ne, ne_eq, beq_iff_eq, bne_iff_ne, bne_eq_false_iff_eq, Classical.not_not] at g29
          refine Jp.y 30 rfl (want_as rfl rfl rfl rfl) rfl rfl Kp.true (Y.move rfl rfl) ?_
          refine Jp.y 31 rfl (want_as rfl rfl rfl rfl) rfl rfl Kp.true (Y.leq rfl rfl rfl) ?_
          refine Jp.y 32 rfl (want_all rfl) rfl rfl Kp.true (Y.pickT rfl rfl rfl) ?_
          refine Jp.y 26 rfl (want_all rfl) rfl rfl Kp.true (Y.assign rfl rfl) ?_
          refine Jp.done hK70 ?_
          refine Cd.cond rfl (fun g26 => ?_) (fun g26 => ?_)
          · skip
            try simp only [decide_eq_false_iff_not, decide_eq_true_eq, Int.not_lt, Int.not_le, Bool.not_eq_false, Bool.not_eq_true, Bool.not_true, Bool.not_false, Bool.not_eq_true', Bool.not_eq_false', beq_eq_false_iff_ne, ne_eq, beq_iff_eq, bne_iff_ne, bne_eq_false_iff_eq, Classical.not_not] at g26
            refine Cd.seq fun K71 hK71 => ?_
            refine Cd.plain [(0, false), (1, false), (2, false), (3, false), (4, false)] rfl rfl ?_
            refine Jp.y 33 rfl (want_all rfl) rfl rfl Kp.true (Y.move rfl rfl) ?_
            refine Jp.y 34 rfl (want_all rfl) rfl rfl Kp.true (Y.sub_ rfl rfl rfl (by first | exact wrap_i64 (by omega) (by omega) | rfl)) ?_
            refine Jp.y 35 rfl (want_all rfl) rfl rfl Kp.true (Y.add_ rfl rfl rfl (by first | exact wrap_i64 (by omega) (by omega) | rfl)) ?_
            refine Jp.y 2 rfl (want_all rfl) rfl rfl Kp.true (Y.assign rfl rfl) ?_
            refine Jp.y 3 rfl (want_all rfl) rfl rfl Kp.true (Y.assign rfl rfl) ?_
            refine Jp.done hK71 ?_
            refine Cd.ret [] rfl (res2 rfl rfl rfl) trivial ⟨rfl, by first | (exfalso; omega) | (rw [show isKind op = true from decide_eq_true (by omega)]; first | rfl | (rw [show kindA op = op - 28 by (rw [kindA, if_neg (by omega), if_neg (by omega), if_pos (by omega)])]; exact congrArg (fun x => Value.tuple #[.int .i64 x, .bool true]) (by omega))) | (rw [show isKind op = false from decide_eq_false (by omega), show kindA op = 0 by (rw [kindA, if_neg (by omega), if_neg (by omega), if_neg (by omega)])]; rfl), rfl⟩
          · skip
            try simp only [decide_eq_false_iff_not, decide_eq_true_eq, Int.not_lt, Int.not_le, Bool.not_eq_false, Bool.not_eq_true, Bool.not_true, Bool.not_false, Bool.not_eq_true', Bool.not_eq_false', beq_eq_false_iff_ne, ne_eq, beq_iff_eq, bne_iff_ne, bne_eq_false_iff_eq, Classical.not_not] at g26
            refine Cd.over rfl hK55 ?_
            refine Cd.seq fun K72 hK72 => ?_
            refine Cd.plain [(0, false), (1, false)] rfl rfl ?_
            refine Jp.y 2 rfl (want_all rfl) rfl rfl Kp.true (Y.assign rfl rfl) ?_
            refine Jp.y 3 rfl (want_all rfl) rfl rfl Kp.true (Y.assign rfl rfl) ?_
            refine Jp.done hK72 ?_
            refine Cd.ret [] rfl (res2 rfl rfl rfl) trivial ⟨rfl, by first | (exfalso; omega) | (rw [show isKind op = true from decide_eq_true (by omega)]; first | rfl | (rw [show kindA op = op - 28 by (rw [kindA, if_neg (by omega), if_neg (by omega), if_pos (by omega)])]; exact congrArg (fun x => Value.tuple #[.int .i64 x, .bool true]) (by omega))) | (rw [show isKind op = false from decide_eq_false (by omega), show kindA op = 0 by (rw [kindA, if_neg (by omega), if_neg (by omega), if_neg (by omega)])]; rfl), rfl⟩
        · skip
          try simp only [decide_eq_false_iff_not, decide_eq_true_eq, Int.not_lt, Int.not_le, Bool.not_eq_false, Bool.not_eq_true, Bool.not_true, Bool.not_false, Bool.not_eq_true', Bool.not_eq_false', beq_eq_false_iff_ne, ne_eq, beq_iff_eq, bne_iff_ne, bne_eq_false_iff_eq, Classical.not_not] at g29
          refine Jp.skip 30 rfl (want_as rfl rfl rfl rfl) rfl rfl Kp.true ?_
          refine Jp.skip 31 rfl (want_as rfl rfl rfl rfl) rfl rfl Kp.true ?_
          refine Jp.y 32 rfl (want_all rfl) rfl rfl Kp.true (Y.pickF rfl rfl rfl) ?_
          refine Jp.y 26 rfl (want_all rfl) rfl rfl Kp.true (Y.assign rfl rfl) ?_
          refine Jp.done hK70 ?_
          refine Cd.condF rfl ?_
          refine Cd.over rfl hK55 ?_
          refine Cd.seq fun K73 hK73 => ?_
          refine Cd.plain [(0, false), (1, false)] rfl rfl ?_
          refine Jp.y 2 rfl (want_all rfl) rfl rfl Kp.true (Y.assign rfl rfl) ?_
          refine Jp.y 3 rfl (want_all rfl) rfl rfl Kp.true (Y.assign rfl rfl) ?_
          refine Jp.done hK73 ?_
          refine Cd.ret [] rfl (res2 rfl rfl rfl) trivial ⟨rfl, by first | (exfalso; omega) | (rw [show isKind op = true from decide_eq_true (by omega)]; first | rfl | (rw [show kindA op = op - 28 by (rw [kindA, if_neg (by omega), if_neg (by omega), if_pos (by omega)])]; exact congrArg (fun x => Value.tuple #[.int .i64 x, .bool true]) (by omega))) | (rw [show isKind op = false from decide_eq_false (by omega), show kindA op = 0 by (rw [kindA, if_neg (by omega), if_neg (by omega), if_neg (by omega)])]; rfl), rfl⟩
    · skip
      try simp only [decide_eq_false_iff_not, decide_eq_true_eq, Int.not_lt, Int.not_le, Bool.not_eq_false, Bool.not_eq_true, Bool.not_true, Bool.not_false, Bool.not_eq_true', Bool.not_eq_false', beq_eq_false_iff_ne, ne_eq, beq_iff_eq, bne_iff_ne, bne_eq_false_iff_eq, Classical.not_not] at g18
      refine Jp.skip 19 rfl (want_as rfl rfl rfl rfl) rfl rfl Kp.true ?_
      refine Jp.skip 20 rfl (want_as rfl rfl rfl rfl) rfl rfl Kp.true ?_
      refine Jp.y 21 rfl (want_all rfl) rfl rfl Kp.true (Y.pickF rfl rfl rfl) ?_
      refine Jp.y 15 rfl (want_all rfl) rfl rfl Kp.true (Y.assign rfl rfl) ?_
      refine Jp.done hK68 ?_
      refine Cd.condF rfl ?_
      refine Cd.seq fun K74 hK74 => ?_
      refine Cd.plain [(0, false), (1, false), (2, false), (3, false), (4, false), (5, false), (6, false)] rfl rfl ?_
      refine Jp.y 27 rfl (want_all rfl) rfl rfl Kp.true (Y.move rfl rfl) ?_
      refine Jp.y 28 rfl (want_all rfl) rfl rfl Kp.true (Y.geq rfl rfl rfl) ?_
      refine Jp.y 29 rfl (want_all rfl) rfl rfl Kp.true (Y.move rfl rfl) ?_
      refine Jp.split 29 rfl (fun g29 => ?_) (fun g29 => ?_)
      · skip
        try simp only [decide_eq_false_iff_not, decide_eq_true_eq, Int.not_lt, Int.not_le, Bool.not_eq_false, Bool.not_eq_true, Bool.not_true, Bool.not_false, Bool.not_eq_true', Bool.not_eq_false', beq_eq_false_iff_ne, ne_eq, beq_iff_eq, bne_iff_ne, bne_eq_false_iff_eq, Classical.not_not] at g29
        refine Jp.y 30 rfl (want_as rfl rfl rfl rfl) rfl rfl Kp.true (Y.move rfl rfl) ?_
        refine Jp.y 31 rfl (want_as rfl rfl rfl rfl) rfl rfl Kp.true (Y.leq rfl rfl rfl) ?_
        refine Jp.y 32 rfl (want_all rfl) rfl rfl Kp.true (Y.pickT rfl rfl rfl) ?_
        refine Jp.y 26 rfl (want_all rfl) rfl rfl Kp.true (Y.assign rfl rfl) ?_
        refine Jp.done hK74 ?_
        refine Cd.cond rfl (fun g26 => ?_) (fun g26 => ?_)
        · skip
          try simp only [decide_eq_false_iff_not, decide_eq_true_eq, Int.not_lt, Int.not_le, Bool.not_eq_false, Bool.not_eq_true, Bool.not_true, Bool.not_false, Bool.not_eq_true', Bool.not_eq_false', beq_eq_false_iff_ne, ne_eq, beq_iff_eq, bne_iff_ne, bne_eq_false_iff_eq, Classical.not_not] at g26
          refine Cd.seq fun K75 hK75 => ?_
          refine Cd.plain [(0, false), (1, false), (2, false), (3, false), (4, false)] rfl rfl ?_
          refine Jp.y 33 rfl (want_all rfl) rfl rfl Kp.true (Y.move rfl rfl) ?_
          refine Jp.y 34 rfl (want_all rfl) rfl rfl Kp.true (Y.sub_ rfl rfl rfl (by first | exact wrap_i64 (by omega) (by omega) | rfl)) ?_
          refine Jp.y 35 rfl (want_all rfl) rfl rfl Kp.true (Y.add_ rfl rfl rfl (by first | exact wrap_i64 (by omega) (by omega) | rfl)) ?_
          refine Jp.y 2 rfl (want_all rfl) rfl rfl Kp.true (Y.assign rfl rfl) ?_
          refine Jp.y 3 rfl (want_all rfl) rfl rfl Kp.true (Y.assign rfl rfl) ?_
          refine Jp.done hK75 ?_
          refine Cd.ret [] rfl (res2 rfl rfl rfl) trivial ⟨rfl, by first | (exfalso; omega) | (rw [show isKind op = true from decide_eq_true (by omega)]; first | rfl | (rw [show kindA op = op - 28 by (rw [kindA, if_neg (by omega), if_neg (by omega), if_pos (by omega)])]; exact congrArg (fun x => Value.tuple #[.int .i64 x, .bool true]) (by omega))) | (rw [show isKind op = false from decide_eq_false (by omega), show kindA op = 0 by (rw [kindA, if_neg (by omega), if_neg (by omega), if_neg (by omega)])]; rfl), rfl⟩
        · skip
          try simp only [decide_eq_false_iff_not, decide_eq_true_eq, Int.not_lt, Int.not_le, Bool.not_eq_false, Bool.not_eq_true, Bool.not_true, Bool.not_false, Bool.not_eq_true', Bool.not_eq_false', beq_eq_false_iff_ne, ne_eq, beq_iff_eq, bne_iff_ne, bne_eq_false_iff_eq, Classical.not_not] at g26
          refine Cd.over rfl hK55 ?_
          refine Cd.seq fun K76 hK76 => ?_
          refine Cd.plain [(0, false), (1, false)] rfl rfl ?_
          refine Jp.y 2 rfl (want_all rfl) rfl rfl Kp.true (Y.assign rfl rfl) ?_
          refine Jp.y 3 rfl (want_all rfl) rfl rfl Kp.true (Y.assign rfl rfl) ?_
          refine Jp.done hK76 ?_
          refine Cd.ret [] rfl (res2 rfl rfl rfl) trivial ⟨rfl, by first | (exfalso; omega) | (rw [show isKind op = true from decide_eq_true (by omega)]; first | rfl | (rw [show kindA op = op - 28 by (rw [kindA, if_neg (by omega), if_neg (by omega), if_pos (by omega)])]; exact congrArg (fun x => Value.tuple #[.int .i64 x, .bool true]) (by omega))) | (rw [show isKind op = false from decide_eq_false (by omega), show kindA op = 0 by (rw [kindA, if_neg (by omega), if_neg (by omega), if_neg (by omega)])]; rfl), rfl⟩
      · skip
        try simp only [decide_eq_false_iff_not, decide_eq_true_eq, Int.not_lt, Int.not_le, Bool.not_eq_false, Bool.not_eq_true, Bool.not_true, Bool.not_false, Bool.not_eq_true', Bool.not_eq_false', beq_eq_false_iff_ne, ne_eq, beq_iff_eq, bne_iff_ne, bne_eq_false_iff_eq, Classical.not_not] at g29
        refine Jp.skip 30 rfl (want_as rfl rfl rfl rfl) rfl rfl Kp.true ?_
        refine Jp.skip 31 rfl (want_as rfl rfl rfl rfl) rfl rfl Kp.true ?_
        refine Jp.y 32 rfl (want_all rfl) rfl rfl Kp.true (Y.pickF rfl rfl rfl) ?_
        refine Jp.y 26 rfl (want_all rfl) rfl rfl Kp.true (Y.assign rfl rfl) ?_
        refine Jp.done hK74 ?_
        refine Cd.condF rfl ?_
        refine Cd.over rfl hK55 ?_
        refine Cd.seq fun K77 hK77 => ?_
        refine Cd.plain [(0, false), (1, false)] rfl rfl ?_
        refine Jp.y 2 rfl (want_all rfl) rfl rfl Kp.true (Y.assign rfl rfl) ?_
        refine Jp.y 3 rfl (want_all rfl) rfl rfl Kp.true (Y.assign rfl rfl) ?_
        refine Jp.done hK77 ?_
        refine Cd.ret [] rfl (res2 rfl rfl rfl) trivial ⟨rfl, by first | (exfalso; omega) | (rw [show isKind op = true from decide_eq_true (by omega)]; first | rfl | (rw [show kindA op = op - 28 by (rw [kindA, if_neg (by omega), if_neg (by omega), if_pos (by omega)])]; exact congrArg (fun x => Value.tuple #[.int .i64 x, .bool true]) (by omega))) | (rw [show isKind op = false from decide_eq_false (by omega), show kindA op = 0 by (rw [kindA, if_neg (by omega), if_neg (by omega), if_neg (by omega)])]; rfl), rfl⟩
end Go.Proofs.Ytkjeidoplonkjaa
